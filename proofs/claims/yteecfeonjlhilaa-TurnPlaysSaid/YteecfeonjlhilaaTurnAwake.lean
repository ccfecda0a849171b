/- A queue's state through a law; awake. -/
import Derived.Test.YteecfeonjlhilaaTurnPure
namespace Go.Proofs.Yteecfeonjlhilaa.Q
open Go.RowKit Go.Proofs.YteecfeonjlhilaaW.PrintWords Go.Proofs.YteecfeonjlhilaaW.PrintLast Go.Proofs.YteecfeonjlhilaaW.PrintMore Go.Proofs.Yteecfeonjlhilaa.Math
set_option linter.unusedVariables false
set_option linter.unusedSimpArgs false

/-- A queue that was made since w0. -/
structure QSt (T : TypeId) (w0 w : World) (ok : Nat → Prop) (p : Nat) (xs : List Int) : Prop where
  at_ : At T w ok p xs
  below : Below w0.heap.size w0 w
  size : ∀ k, w.heap.size ≤ k → ok k
  pb : ¬ ok p
  p0 : w0.heap.size ≤ p

theorem QSt.turn {T : TypeId} {w0 w w1 : World} {ok : Nat → Prop} {p : Nat} {xs ys : List Int} (h : QSt T w0 w ok p xs) (ha : At T w1 ok p ys) (hg : w.grownBy w1 (some p)) : QSt T w0 w1 ok p ys :=
  ⟨ha, h.below.grown hg h.below.size (by intro k hk; injection hk with hk; subst hk; exact h.p0), fun k hk => h.size k (Nat.le_trans hg.size hk), h.pb, h.p0⟩
theorem QSt.next {T : TypeId} {w0 w w1 : World} {ok : Nat → Prop} {p : Nat} {xs : List Int} (h : QSt T w0 w ok p xs) (hb : Below w.heap.size w w1) : QSt T w0 w1 ok p xs :=
  ⟨At_below h.at_ hb, below_step h.below hb, fun k hk => h.size k (Nat.le_trans hb.size hk), h.pb, h.p0⟩
theorem QSt.other {T : TypeId} {w0 w w1 : World} {ok : Nat → Prop} {p : Nat} {row : Option Nat} {xs : List Int} (h : QSt T w0 w ok p xs) (hg : w.grownBy w1 row) (hpq : some p ≠ row) (hq : ∀ k, ok k → some k ≠ row) (hq0 : ∀ k, row = some k → w0.heap.size ≤ k) : QSt T w0 w1 ok p xs :=
  ⟨At_grown h.at_ hg hpq hq, h.below.grown hg h.below.size hq0, fun k hk => h.size k (Nat.le_trans hg.size hk), h.pb, h.p0⟩

section
variable {w0 w : World} {ok : Nat → Prop} {p : Nat} {xs : List Int} (no : Int)
theorem want_q (h : QSt 41 w0 w ok p xs) (hl : xs.length ≤ 1000) :
    Calls Try.prog 10 #[.pointer (some ⟨p, 0, none⟩), .int .i64 no] w fun e w' => e = .returned (.bool (rd (want xs no) 0 == no)) ∧ QSt 41 w0 w' ok p (want xs no) ∧ w.grownBy w' (some p) :=
  (want_calls ok p xs no w h.at_ h.pb h.size hl).mono fun e w' ⟨h1, h2, h3⟩ => ⟨h1, h.turn h2 h3, h3⟩
theorem leave_q (h : QSt 41 w0 w ok p xs) (hl : xs.length ≤ 1000) :
    Calls Try.prog 8 #[.pointer (some ⟨p, 0, none⟩), .int .i64 no] w fun e w' => e = .returned (.bool (decide (no ∈ xs))) ∧ QSt 41 w0 w' ok p (leave xs no) ∧ w.grownBy w' (some p) :=
  (leave_calls ok p xs no w h.at_ h.pb h.size hl).mono fun e w' ⟨h1, h2, h3⟩ => ⟨h1, h.turn h2 h3, h3⟩
theorem wantR_q (h : QSt 29 w0 w ok p xs) (hl : xs.length ≤ 1000) :
    Calls Try.prog 11 #[.pointer (some ⟨p, 0, none⟩), .int .i64 no] w fun e w' => e = .returned (.bool (rd (want xs no) 0 == no)) ∧ QSt 29 w0 w' ok p (want xs no) ∧ w.grownBy w' (some p) :=
  (wantR_calls ok p xs no w h.at_ h.pb h.size hl).mono fun e w' ⟨h1, h2, h3⟩ => ⟨h1, h.turn h2 h3, h3⟩
theorem leaveR_q (h : QSt 29 w0 w ok p xs) (hl : xs.length ≤ 1000) :
    Calls Try.prog 9 #[.pointer (some ⟨p, 0, none⟩), .int .i64 no] w fun e w' => e = .returned (.bool (decide (no ∈ xs))) ∧ QSt 29 w0 w' ok p (leave xs no) ∧ w.grownBy w' (some p) :=
  (leaveR_calls ok p xs no w h.at_ h.pb h.size hl).mono fun e w' ⟨h1, h2, h3⟩ => ⟨h1, h.turn h2 h3, h3⟩
end
theorem new_q (w0 w : World) (h : Below w0.heap.size w0 w) :
    Calls Try.prog 7 #[] w fun e w' => e = .returned (.pointer (some ⟨w.heap.size, 0, none⟩)) ∧ QSt 41 w0 w' (fun k => w.heap.size < k) w.heap.size [] ∧ Below w.heap.size w w' :=
  (new_calls w).mono fun e w' ⟨h1, h2, h3, h4⟩ => ⟨h1, ⟨At_new h2, below_step h h4, fun k hk => by omega, by omega, h.size⟩, h4⟩

set_option maxHeartbeats 2000000 in
theorem awake_calls (w : World) : Calls Try.prog 6 #[] w fun e w' => e = .returned (.bool true) ∧ Below w.heap.size w w' := by
  have e3 : want [] 3 = [3] := by decide
  have e1 : want [3] 1 = [3, 1] := by decide
  have l3 : leave [3, 1] 3 = [1] := by decide
  have l1 : leave [1] 3 = [1] := by decide
  have hmm : decide ((3 : Int) ∈ [3, 1]) = true := by decide
  have hm1 : decide ((3 : Int) ∈ [1]) = false := by decide
  have E3 := Lib.hid e3
  have E1 := Lib.hid e1
  have L3 := Lib.hid l3
  have L1 := Lib.hid l1
  have M3 := Lib.hid hmm
  have M1 := Lib.hid hm1
  clear e3 e1 l3 l1 hmm hm1
  go_enter Try.func6, Try.ntmps6
  go_wp2_with fail
  refine (new_q w w (Below.refl _ _)).mono ?_
  rintro e w1 ⟨rfl, hq1, _⟩
  have H1 := Lib.hid hq1
  clear hq1
  go_wp2_with fail
  refine (want_q 3 H1.out (by decide)).mono ?_
  rintro e w2 ⟨rfl, hq2, _⟩
  rw [E3.out] at hq2 ⊢
  have H2 := Lib.hid hq2
  clear hq2
  go_wp2_with fail
  refine (want_q 1 H2.out (by decide)).mono ?_
  rintro e w3 ⟨rfl, hq3, _⟩
  rw [E1.out] at hq3 ⊢
  have H3 := Lib.hid hq3
  clear hq3
  go_wp2_with fail
  refine (leave_q 3 H3.out (by decide)).mono ?_
  rintro e w4 ⟨rfl, hq4, _⟩
  rw [M3.out]
  rw [L3.out] at hq4
  have H4 := Lib.hid hq4
  clear hq4
  go_wp2_with fail
  refine (first_calls _ _ _ _ H4.out.at_).mono ?_
  rintro e w5 ⟨rfl, rfl⟩
  have hr3 : rd [3] 0 = 3 := rfl
  have hr31 : rd [3, 1] 0 = 3 := rfl
  have hr1 : rd [1] 0 = 1 := rfl
  rw [hr1, hr31, hr3]
  clear hr3 hr31 hr1
  go_wp2_with fail
  refine (leave_q 3 H4.out (by decide)).mono ?_
  rintro e w6 ⟨rfl, hq6, _⟩
  rw [M1.out]
  have HB := Lib.hid hq6.below
  clear hq6
  go_wp2
  go_ret
  exact ⟨rfl, HB.out⟩

end Go.Proofs.Yteecfeonjlhilaa.Q
