/- NumOrder: of any two numbers the lesser one's bytes in order come first; they are what the document says, and are read again; other lengths aren't numbers. -/
import Derived.Test.YtpeimbbgaccddaaNumOrd
import Derived.Test.YtpeimbbgaccddaaPAllx1
import Derived.Test.YtpeimbbgaccddaaBlocks
import Derived.Test.YtpeimbbgaccddaaNumMore
import Derived.Outline
namespace Go.Proofs.Ytpeimbbgaccddaa.Walk
open Go.RowKit Go.Proofs.Ytpeimbbgaccddaa.PAll Go.Proofs.YtpeimbbgaccddaaW.PrintWords Go.Proofs.YtpeimbbgaccddaaW.PrintLast Go.Proofs.YtpeimbbgaccddaaW.PrintMore Go.Proofs.Ytpeimbbgaccddaa.Math Go.Proofs.Ytpeimbbgaccddaa.NumFacts
set_option linter.unusedVariables false
set_option linter.unusedSimpArgs false

section
variable {w : World}
theorem key_c (v : Int) (w : World) : Calls Try.prog 24 #[.int .u64 v] w fun e w' => ∃ A c, e = .returned (.slice A 8 c) ∧ 8 ≤ c ∧ Kd.C (Kd.int .u8) w' A (key8 v).length (key8 v) ∧ Below w.heap.size w w' :=
  (num_Key.calls 30 v (key8 v) w (key_eq 30 v (by omega))).mono fun e w' ⟨u, h1, h2, h3⟩ => by
    obtain ⟨A, c, rfl, hl, hC⟩ := Kd.R_reads h2
    exact ⟨A, c, h1, hl, hC, h3⟩
theorem keyint_c (v : Int) (h0 : -9223372036854775808 ≤ v) (h1 : v < 9223372036854775808) (w : World) : Calls Try.prog 25 #[.int .i64 v] w fun e w' => ∃ A c, e = .returned (.slice A 8 c) ∧ 8 ≤ c ∧ Kd.C (Kd.int .u8) w' A (key8 (lift v)).length (key8 (lift v)) ∧ Below w.heap.size w w' :=
  (num_KeyInt.calls 30 v (key8 (lift v)) w (keyint_eq 30 v h0 h1 (by omega))).mono fun e w' ⟨u, h1, h2, h3⟩ => by
    obtain ⟨A, c, rfl, hl, hC⟩ := Kd.R_reads h2
    exact ⟨A, c, h1, hl, hC, h3⟩
theorem rkey_c (v : Int) (h0 : 0 ≤ v) (h1 : v < 18446744073709551616) (w : World) : Calls Try.prog 26 #[.int .u64 v] w fun e w' => ∃ A c, e = .returned (.slice A 8 c) ∧ 8 ≤ c ∧ Kd.C (Kd.int .u8) w' A (key8 v).length (key8 v) ∧ Below w.heap.size w w' :=
  (cambiumref01_Key.calls 30 v (key8 v) w (rkey_eq 30 v h0 h1 (by omega))).mono fun e w' ⟨u, h1, h2, h3⟩ => by
    obtain ⟨A, c, rfl, hl, hC⟩ := Kd.R_reads h2
    exact ⟨A, c, h1, hl, hC, h3⟩
theorem rkeyint_c (v : Int) (h0 : -9223372036854775808 ≤ v) (h1 : v < 9223372036854775808) (w : World) : Calls Try.prog 27 #[.int .i64 v] w fun e w' => ∃ A c, e = .returned (.slice A 8 c) ∧ 8 ≤ c ∧ Kd.C (Kd.int .u8) w' A (key8 (lift v)).length (key8 (lift v)) ∧ Below w.heap.size w w' :=
  (cambiumref01_KeyInt.calls 30 v (key8 (lift v)) w (rkeyint_eq 30 v h0 h1 (by omega))).mono fun e w' ⟨u, h1, h2, h3⟩ => by
    obtain ⟨A, c, rfl, hl, hC⟩ := Kd.R_reads h2
    exact ⟨A, c, h1, hl, hC, h3⟩
theorem less_c {A A' : Option Addr} {c c' : Nat} (x y : Int) (x0 : 0 ≤ x) (x1 : x < 18446744073709551616) (y0 : 0 ≤ y) (y1 : y < 18446744073709551616) (w : World) (h : Kd.C (Kd.int .u8) w A (key8 x).length (key8 x)) (hc : 8 ≤ c) (h' : Kd.C (Kd.int .u8) w A' (key8 y).length (key8 y)) (hc' : 8 ≤ c') :
    Calls Try.prog 23 #[.slice A 8 c, .slice A' 8 c'] w fun e w' => e = .returned (.bool (decide (x < y))) ∧ Below w.heap.size w w' :=
  (cambiumref01_Less.calls 30 A c (key8 x) A' c' (key8 y) _ w h hc h' hc' (less_key 30 x y x0 x1 y0 y1 (by omega))).mono fun e w' ⟨h1, h2⟩ => ⟨h1, h2.below⟩
theorem same_c {A A' : Option Addr} {c c' : Nat} (x : Int) (w : World) (h : Kd.C (Kd.int .u8) w A (key8 x).length (key8 x)) (hc : 8 ≤ c) (h' : Kd.C (Kd.int .u8) w A' (key8 x).length (key8 x)) (hc' : 8 ≤ c') :
    Calls Try.prog 19 #[.slice A 8 c, .slice A' 8 c'] w fun e w' => e = .returned (.bool true) ∧ Below w.heap.size w w' :=
  (cambiumref01_Same.calls 30 A c (key8 x) A' c' (key8 x) true w h hc h' hc' (by rw [same_eq 30 _ _ (by rw [key8_len]; omega) (by rw [key8_len]; omega)]; simp)).mono fun e w' ⟨h1, h2⟩ => ⟨h1, h2.below⟩
theorem unkey_c {A : Option Addr} {c : Nat} (x : Int) (x0 : 0 ≤ x) (x1 : x < 18446744073709551616) (w : World) (h : Kd.C (Kd.int .u8) w A (key8 x).length (key8 x)) (hc : 8 ≤ c) :
    Calls Try.prog 28 #[.slice A 8 c] w fun e w' => e = .returned (.tuple #[.int .u64 x, .bool true]) ∧ Below w.heap.size w w' :=
  num_Unkey.calls A c (key8 x) x true w h hc (unkey_key x x0 x1)
theorem unkeyint_c {A : Option Addr} {c : Nat} (x : Int) (x0 : -9223372036854775808 ≤ x) (x1 : x < 9223372036854775808) (w : World) (h : Kd.C (Kd.int .u8) w A (key8 (lift x)).length (key8 (lift x))) (hc : 8 ≤ c) :
    Calls Try.prog 29 #[.slice A 8 c] w fun e w' => e = .returned (.tuple #[.int .i64 x, .bool true]) ∧ Below w.heap.size w w' :=
  num_UnkeyInt.calls A c (key8 (lift x)) x true w h hc (unkeyint_key x x0 x1)
end

/-- The two arrays lie in blocks of the call's own. -/
structure Bl (W w : World) (N : Nat) (a b m n : Int) : Prop where
  b0 : w.heap[N]? = some (.cells #[.int .u64 a, .int .u64 b] 43 (0, 0))
  b1 : w.heap[N + 1]? = some (.cells #[.int .i64 m, .int .i64 n] 44 (0, 0))
  bw : Below W.heap.size W w
section
variable {W w w1 : World} {N : Nat} {a b m n : Int}
theorem Bl.next (h : Bl W w N a b m n) (hb : Below w.heap.size w w1) : Bl W w1 N a b m n := ⟨block_below h.b0 hb, block_below h.b1 hb, below_step h.bw hb⟩
theorem Bl.c0 (h : Bl W w N a b m n) : w.cell? ⟨N, 0, none⟩ = some (.int .u64 a) := (blk_cell h.b0 0).trans rfl
theorem Bl.c1 (h : Bl W w N a b m n) : w.cell? ⟨N, 1, none⟩ = some (.int .u64 b) := (blk_cell h.b0 1).trans rfl
theorem Bl.c2 (h : Bl W w N a b m n) : w.cell? ⟨N + 1, 0, none⟩ = some (.int .i64 m) := (blk_cell h.b1 0).trans rfl
theorem Bl.c3 (h : Bl W w N a b m n) : w.cell? ⟨N + 1, 1, none⟩ = some (.int .i64 n) := (blk_cell h.b1 1).trans rfl
end

set_option maxHeartbeats 4000000 in
set_option maxRecDepth 20000 in
theorem NumOrder (W : World) (v : List Int) (hv : v.length = 2) (hvw : ∀ x ∈ v, (Lit.int .u64 x).wf = true) (s : List Int) (hs : s.length = 2) (hsw : ∀ x ∈ s, (Lit.int .i64 x).wf = true)
    (A : Option Addr) (c : Nat) (l : List Int) (hl : l.length ≤ c) (hc : Kd.C (Kd.int .u8) W A l.length l) (hg : (∀ x ∈ l, (Lit.int .u8 x).wf = true) ∧ l.length * 1 ≤ 140737488351232) :
    Calls Try.prog 9 #[.agg (v.map (Value.int .u64)).toArray, .agg (s.map (Value.int .i64)).toArray, .slice A l.length c] W fun e w' => e = .returned (.bool true) ∧ Below W.heap.size W w' := by
  match v, hv, s, hs with
  | [a, b], _, [m, n], _ =>
  simp only [List.map_cons, List.map_nil]
  have hb := isB_of_wf hg.1
  have wa := hvw a (by simp)
  have wb := hvw b (by simp)
  have wm := hsw m (by simp)
  have wn := hsw n (by simp)
  simp [Lit.wf, IntKind.min, IntKind.max, IntKind.bits, IntKind.signed] at wa wb wm wn
  have HA := Lib.hid (show 0 ≤ a ∧ a < 18446744073709551616 by omega)
  have HB := Lib.hid (show 0 ≤ b ∧ b < 18446744073709551616 by omega)
  have HM := Lib.hid (show -9223372036854775808 ≤ m ∧ m < 9223372036854775808 by omega)
  have HN := Lib.hid (show -9223372036854775808 ≤ n ∧ n < 9223372036854775808 by omega)
  have HC := Lib.hid hc
  have HL := Lib.hid hl
  have HBy := Lib.hid hb
  clear wa wb wm wn hvw hsw hg hc hb hl
  go_enter Try.func9, Try.ntmps9
  have hb0 : Bl W (W.alloc (.cells #[.int .u64 a, .int .u64 b] 43) |>.alloc (.cells #[.int .i64 m, .int .i64 n] 44)) W.heap.size a b m n :=
    ⟨blk_alloc (heap_alloc_new _ _) _, by have := heap_alloc_new (W.alloc (.cells #[.int .u64 a, .int .u64 b] 43)) (.cells #[.int .i64 m, .int .i64 n] 44); simpa using this, below_alloc (below_alloc (Below.refl _ _) _) _⟩
  have HB0 := Lib.hid hb0
  clear hb0
  go_wp2_with fail
  refine (cambiumlaw01_awake.calls 50 true _ (awake_eq 50 (by omega))).mono ?_
  rintro e w1 ⟨rfl, hbe⟩
  have HD1 := Lib.hid (HB0.out.next hbe)
  clear hbe HB0
  go_wp2
  generalize hN : W.heap.size = N at HD1 ⊢
  have hbd := HD1.out.next (Below.refl _ _).drew
  have hself1 : (decide (a < b) != decide (a < b)) = false := bne_self_eq_false _
  have hself2 : (decide (m < n) != decide (m < n)) = false := bne_self_eq_false _
  have hlift : decide (lift m < lift n) = decide (m < n) := by unfold lift; rw [Bool.eq_iff_iff, decide_eq_true_iff, decide_eq_true_iff]; omega
  have HLi := Lib.hid hlift
  have HLm := Lib.hid (lift_bounds HM.out.1 HM.out.2)
  have HLn := Lib.hid (lift_bounds HN.out.1 HN.out.2)
  clear hlift
  refine start_ (n := 28) (S := fun w' => w'.cell? ⟨N, 0, none⟩ = some (.int .u64 a) ∧ w'.cell? ⟨N, 1, none⟩ = some (.int .u64 b) ∧ w'.cell? ⟨N + 1, 0, none⟩ = some (.int .i64 m) ∧ w'.cell? ⟨N + 1, 1, none⟩ = some (.int .i64 n)) (ds := []) #[false, false, false, false, false, false, false, false, false, false, false, false, false, false, false, false, false, false, false, false, false, false, false, false, false, false, false, false] (by kernel_rfl) rfl rfl ⟨hbd.c0, hbd.c1, hbd.c2, hbd.c3⟩ (fun hHeld => ?_)
  generalize w1.drew = w2 at hbd hHeld ⊢
  have HD := Lib.hid hbd
  clear hbd
  refine pure_ (i := 0) (N := some 19) (v := ?_) (a' := ?_) #[true, false, false, false, false, false, false, false, false, false, false, false, false, false, false, false, false, false, false, false, false, false, false, false, false, false, false, false] rfl rfl (by kernel_rfl) (fun _ _ _ h => h) (Or.inl ⟨by rfl, ?_⟩) ?_ ?_
  rotate_left
  · intro w'
    go_simp
    with_reducible rfl
  rotate_left
  · simp only [Act.put, List.setIfInBounds_toArray, List.set_cons_zero, List.set_cons_succ, i64_w, i32_w]
    rfl
  refine pure_ (i := 2) (N := some 21) (v := ?_) (a' := ?_) #[true, false, true, false, false, false, false, false, false, false, false, false, false, false, false, false, false, false, false, false, false, false, false, false, false, false, false, false] rfl rfl (by kernel_rfl) (fun _ _ _ h => h) (Or.inl ⟨by rfl, ?_⟩) ?_ ?_
  rotate_left
  · intro w'
    go_simp
    with_reducible rfl
  rotate_left
  · simp only [Act.put, List.setIfInBounds_toArray, List.set_cons_zero, List.set_cons_succ, i64_w, i32_w]
    rfl
  refine pure_ (i := 5) (N := some 24) (v := ?_) (a' := ?_) #[true, false, true, false, false, true, false, false, false, false, false, false, false, false, false, false, false, false, false, false, false, false, false, false, false, false, false, false] rfl rfl (by kernel_rfl) (fun _ _ _ h => h) (Or.inl ⟨by rfl, ?_⟩) ?_ ?_
  rotate_left
  · intro w'
    go_simp
    with_reducible rfl
  rotate_left
  · simp only [Act.put, List.setIfInBounds_toArray, List.set_cons_zero, List.set_cons_succ, i64_w, i32_w]
    rfl
  refine pure_ (i := 8) (N := some 27) (v := ?_) (a' := ?_) #[true, false, true, false, false, true, false, false, true, false, false, false, false, false, false, false, false, false, false, false, false, false, false, false, false, false, false, false] rfl rfl (by kernel_rfl) (fun _ _ _ h => h) (Or.inl ⟨by rfl, ?_⟩) ?_ ?_
  rotate_left
  · intro w'
    go_simp
    with_reducible rfl
  rotate_left
  · simp only [Act.put, List.setIfInBounds_toArray, List.set_cons_zero, List.set_cons_succ, i64_w, i32_w]
    rfl
  refine take_ (i := 1) (N := some 20) (v := ?_) (a' := ?_) #[true, true, true, false, false, true, false, false, true, false, false, false, false, false, false, false, false, false, false, false, false, false, false, false, false, false, false, false] rfl rfl (by kernel_rfl) (fun _ _ _ h => h) (Or.inl ⟨by rfl, ?_⟩) hHeld ?_ ?_
  rotate_left
  · rintro w' ⟨s0, s1, s2, s3⟩
    go_simp
    with_reducible rfl
  rotate_left
  · simp only [Act.put, List.setIfInBounds_toArray, List.set_cons_zero, List.set_cons_succ, i64_w, i32_w]
    rfl
  refine take_ (i := 3) (N := some 22) (v := ?_) (a' := ?_) #[true, true, true, true, false, true, false, false, true, false, false, false, false, false, false, false, false, false, false, false, false, false, false, false, false, false, false, false] rfl rfl (by kernel_rfl) (fun _ _ _ h => h) (Or.inl ⟨by rfl, ?_⟩) hHeld ?_ ?_
  rotate_left
  · rintro w' ⟨s0, s1, s2, s3⟩
    go_simp
    with_reducible rfl
  rotate_left
  · simp only [Act.put, List.setIfInBounds_toArray, List.set_cons_zero, List.set_cons_succ, i64_w, i32_w]
    rfl
  refine pure_ (i := 4) (N := some 23) (v := ?_) (a' := ?_) #[true, true, true, true, true, true, false, false, true, false, false, false, false, false, false, false, false, false, false, false, false, false, false, false, false, false, false, false] rfl rfl (by kernel_rfl) (fun _ _ _ h => h) (Or.inl ⟨by rfl, ?_⟩) ?_ ?_
  rotate_left
  · intro w'
    go_simp
    with_reducible rfl
  rotate_left
  · simp only [Act.put, List.setIfInBounds_toArray, List.set_cons_zero, List.set_cons_succ, i64_w, i32_w]
    rfl
  refine take_ (i := 6) (N := some 25) (v := ?_) (a' := ?_) #[true, true, true, true, true, true, true, false, true, false, false, false, false, false, false, false, false, false, false, false, false, false, false, false, false, false, false, false] rfl rfl (by kernel_rfl) (fun _ _ _ h => h) (Or.inl ⟨by rfl, ?_⟩) hHeld ?_ ?_
  rotate_left
  · rintro w' ⟨s0, s1, s2, s3⟩
    go_simp
    with_reducible rfl
  rotate_left
  · simp only [Act.put, List.setIfInBounds_toArray, List.set_cons_zero, List.set_cons_succ, i64_w, i32_w]
    rfl
  refine take_ (i := 9) (N := some 28) (v := ?_) (a' := ?_) #[true, true, true, true, true, true, true, false, true, true, false, false, false, false, false, false, false, false, false, false, false, false, false, false, false, false, false, false] rfl rfl (by kernel_rfl) (fun _ _ _ h => h) (Or.inl ⟨by rfl, ?_⟩) hHeld ?_ ?_
  rotate_left
  · rintro w' ⟨s0, s1, s2, s3⟩
    go_simp
    with_reducible rfl
  rotate_left
  · simp only [Act.put, List.setIfInBounds_toArray, List.set_cons_zero, List.set_cons_succ, i64_w, i32_w]
    rfl
  refine one_ (i := 7) (N := some 26) #[true, true, true, true, true, true, true, true, true, true, false, false, false, false, false, false, false, false, false, false, false, false, false, false, false, false, false, false] rfl rfl (by kernel_rfl) (by decide) (fun K hK => ?_)
  refine goes_ Try.func24 (by kernel_rfl) rfl #[.int .u64 a] (by rfl) rfl rfl (by simp only [List.map_toArray, List.map_cons, List.map_nil]; rfl) ?_
  with_reducible refine (key_c a _).mono ?_
  rintro e w3 ⟨A3, c3, rfl, hl, hC, hb⟩
  refine ⟨_, rfl, ?_⟩
  have HL3 := Lib.hid hl
  have HC3 := Lib.hid hC
  have HD3 := Lib.hid (HD.out.next hb)
  have HB3 := Lib.hid hb
  clear hl hC hb
  refine hK.out _ _ ⟨HD3.out.c0, HD3.out.c1, HD3.out.c2, HD3.out.c3⟩ (fun hHeld => ?_)
  clear hK K
  refine norm_ (a' := ?_) ?_ ?_
  rotate_left
  · show Act.put _ (some 26) _ = _
    simp only [Act.put, List.setIfInBounds_toArray, List.set_cons_zero, List.set_cons_succ, i64_w, i32_w]
    rfl
  refine one_ (i := 10) (N := some 29) #[true, true, true, true, true, true, true, true, true, true, true, false, false, false, false, false, false, false, false, false, false, false, false, false, false, false, false, false] rfl rfl (by kernel_rfl) (by decide) (fun K hK => ?_)
  refine goes_ Try.func24 (by kernel_rfl) rfl #[.int .u64 b] (by rfl) rfl rfl (by simp only [List.map_toArray, List.map_cons, List.map_nil]; rfl) ?_
  with_reducible refine (key_c b _).mono ?_
  rintro e w4 ⟨A4, c4, rfl, hl, hC, hb⟩
  refine ⟨_, rfl, ?_⟩
  have HL4 := Lib.hid hl
  have HC4 := Lib.hid hC
  have HD4 := Lib.hid (HD3.out.next hb)
  have HB4 := Lib.hid hb
  clear hl hC hb
  refine hK.out _ _ ⟨HD4.out.c0, HD4.out.c1, HD4.out.c2, HD4.out.c3⟩ (fun hHeld => ?_)
  clear hK K
  refine norm_ (a' := ?_) ?_ ?_
  rotate_left
  · show Act.put _ (some 29) _ = _
    simp only [Act.put, List.setIfInBounds_toArray, List.set_cons_zero, List.set_cons_succ, i64_w, i32_w]
    rfl
  refine one_ (i := 11) (N := some 30) #[true, true, true, true, true, true, true, true, true, true, true, true, false, false, false, false, false, false, false, false, false, false, false, false, false, false, false, false] rfl rfl (by kernel_rfl) (by decide) (fun K hK => ?_)
  refine goes_ Try.func23 (by kernel_rfl) rfl #[.slice A3 8 c3, .slice A4 8 c4] (by rfl) rfl rfl (by simp only [List.map_toArray, List.map_cons, List.map_nil]; rfl) ?_
  with_reducible refine (less_c a b HA.out.1 HA.out.2 HB.out.1 HB.out.2 _ (Kd.C_below HC3.out HB4.out) HL3.out HC4.out HL4.out).mono ?_
  rintro e w5 ⟨rfl, hb⟩
  refine ⟨_, rfl, ?_⟩
  have HD5 := Lib.hid (HD4.out.next hb)
  clear hb
  refine hK.out _ _ ⟨HD5.out.c0, HD5.out.c1, HD5.out.c2, HD5.out.c3⟩ (fun hHeld => ?_)
  clear hK K
  refine norm_ (a' := ?_) ?_ ?_
  rotate_left
  · show Act.put _ (some 30) _ = _
    simp only [Act.put, List.setIfInBounds_toArray, List.set_cons_zero, List.set_cons_succ, i64_w, i32_w]
    rfl
  refine pure_ (i := 12) (N := some 31) (v := ?_) (a' := ?_) #[true, true, true, true, true, true, true, true, true, true, true, true, true, false, false, false, false, false, false, false, false, false, false, false, false, false, false, false] rfl rfl (by kernel_rfl) (fun _ _ _ h => h) (Or.inl ⟨by rfl, ?_⟩) ?_ ?_
  rotate_left
  · intro w'
    go_simp
    with_reducible rfl
  rotate_left
  · simp only [Act.put, List.setIfInBounds_toArray, List.set_cons_zero, List.set_cons_succ, i64_w, i32_w]
    rfl
  refine pure_ (i := 13) (N := some 32) (v := ?_) (a' := ?_) #[true, true, true, true, true, true, true, true, true, true, true, true, true, true, false, false, false, false, false, false, false, false, false, false, false, false, false, false] rfl rfl (by kernel_rfl) (fun _ _ _ h => h) (Or.inl ⟨by rfl, ?_⟩) ?_ ?_
  rotate_left
  · intro w'
    go_simp
    with_reducible rfl
  rotate_left
  · simp only [Act.put, List.setIfInBounds_toArray, List.set_cons_zero, List.set_cons_succ, i64_w, i32_w]
    rfl
  refine pure_ (i := 14) (N := some 33) (v := ?_) (a' := ?_) #[true, true, true, true, true, true, true, true, true, true, true, true, true, true, true, false, false, false, false, false, false, false, false, false, false, false, false, false] rfl rfl (by kernel_rfl) (fun _ _ _ h => h) (Or.inl ⟨by rfl, ?_⟩) ?_ ?_
  rotate_left
  · intro w'
    go_simp
    with_reducible rfl
  rotate_left
  · simp only [Act.put, List.setIfInBounds_toArray, List.set_cons_zero, List.set_cons_succ, i64_w, i32_w]
    rfl
  refine pure_ (i := 16) (N := some 35) (v := ?_) (a' := ?_) #[true, true, true, true, true, true, true, true, true, true, true, true, true, true, true, false, true, false, false, false, false, false, false, false, false, false, false, false] rfl rfl (by kernel_rfl) (fun _ _ _ h => h) (Or.inl ⟨by rfl, ?_⟩) ?_ ?_
  rotate_left
  · intro w'
    go_simp
    with_reducible rfl
  rotate_left
  · simp only [Act.put, List.setIfInBounds_toArray, List.set_cons_zero, List.set_cons_succ, i64_w, i32_w]
    rfl
  refine pure_ (i := 19) (N := some 38) (v := ?_) (a' := ?_) #[true, true, true, true, true, true, true, true, true, true, true, true, true, true, true, false, true, false, false, true, false, false, false, false, false, false, false, false] rfl rfl (by kernel_rfl) (fun _ _ _ h => h) (Or.inl ⟨by rfl, ?_⟩) ?_ ?_
  rotate_left
  · intro w'
    go_simp
    with_reducible rfl
  rotate_left
  · simp only [Act.put, List.setIfInBounds_toArray, List.set_cons_zero, List.set_cons_succ, i64_w, i32_w]
    rfl
  refine pure_ (i := 22) (N := some 41) (v := ?_) (a' := ?_) #[true, true, true, true, true, true, true, true, true, true, true, true, true, true, true, false, true, false, false, true, false, false, true, false, false, false, false, false] rfl rfl (by kernel_rfl) (fun _ _ _ h => h) (Or.inl ⟨by rfl, ?_⟩) ?_ ?_
  rotate_left
  · intro w'
    go_simp
    with_reducible rfl
  rotate_left
  · simp only [Act.put, List.setIfInBounds_toArray, List.set_cons_zero, List.set_cons_succ, i64_w, i32_w]
    rfl
  refine take_ (i := 15) (N := some 34) (v := ?_) (a' := ?_) #[true, true, true, true, true, true, true, true, true, true, true, true, true, true, true, true, true, false, false, true, false, false, true, false, false, false, false, false] rfl rfl (by kernel_rfl) (fun _ _ _ h => h) (Or.inl ⟨by rfl, ?_⟩) hHeld ?_ ?_
  rotate_left
  · rintro w' ⟨s0, s1, s2, s3⟩
    go_simp
    with_reducible rfl
  rotate_left
  · simp only [Act.put, List.setIfInBounds_toArray, List.set_cons_zero, List.set_cons_succ, i64_w, i32_w]
    rfl
  refine take_ (i := 17) (N := some 36) (v := ?_) (a' := ?_) #[true, true, true, true, true, true, true, true, true, true, true, true, true, true, true, true, true, true, false, true, false, false, true, false, false, false, false, false] rfl rfl (by kernel_rfl) (fun _ _ _ h => h) (Or.inl ⟨by rfl, ?_⟩) hHeld ?_ ?_
  rotate_left
  · rintro w' ⟨s0, s1, s2, s3⟩
    go_simp
    with_reducible rfl
  rotate_left
  · simp only [Act.put, List.setIfInBounds_toArray, List.set_cons_zero, List.set_cons_succ, i64_w, i32_w]
    rfl
  refine pure_ (i := 18) (N := some 37) (v := ?_) (a' := ?_) #[true, true, true, true, true, true, true, true, true, true, true, true, true, true, true, true, true, true, true, true, false, false, true, false, false, false, false, false] rfl rfl (by kernel_rfl) (fun _ _ _ h => h) (Or.inl ⟨by rfl, ?_⟩) ?_ ?_
  rotate_left
  · intro w'
    go_simp
    with_reducible rfl
  rotate_left
  · simp only [Act.put, List.setIfInBounds_toArray, List.set_cons_zero, List.set_cons_succ, i64_w, i32_w]
    rfl
  refine take_ (i := 20) (N := some 39) (v := ?_) (a' := ?_) #[true, true, true, true, true, true, true, true, true, true, true, true, true, true, true, true, true, true, true, true, true, false, true, false, false, false, false, false] rfl rfl (by kernel_rfl) (fun _ _ _ h => h) (Or.inl ⟨by rfl, ?_⟩) hHeld ?_ ?_
  rotate_left
  · rintro w' ⟨s0, s1, s2, s3⟩
    go_simp
    with_reducible rfl
  rotate_left
  · simp only [Act.put, List.setIfInBounds_toArray, List.set_cons_zero, List.set_cons_succ, i64_w, i32_w]
    rfl
  refine take_ (i := 23) (N := some 42) (v := ?_) (a' := ?_) #[true, true, true, true, true, true, true, true, true, true, true, true, true, true, true, true, true, true, true, true, true, false, true, true, false, false, false, false] rfl rfl (by kernel_rfl) (fun _ _ _ h => h) (Or.inl ⟨by rfl, ?_⟩) hHeld ?_ ?_
  rotate_left
  · rintro w' ⟨s0, s1, s2, s3⟩
    go_simp
    with_reducible rfl
  rotate_left
  · simp only [Act.put, List.setIfInBounds_toArray, List.set_cons_zero, List.set_cons_succ, i64_w, i32_w]
    rfl
  refine one_ (i := 21) (N := some 40) #[true, true, true, true, true, true, true, true, true, true, true, true, true, true, true, true, true, true, true, true, true, true, true, true, false, false, false, false] rfl rfl (by kernel_rfl) (by decide) (fun K hK => ?_)
  refine goes_ Try.func25 (by kernel_rfl) rfl #[.int .i64 m] (by rfl) rfl rfl (by simp only [List.map_toArray, List.map_cons, List.map_nil]; rfl) ?_
  with_reducible refine (keyint_c m HM.out.1 HM.out.2 _).mono ?_
  rintro e w6 ⟨A6, c6, rfl, hl, hC, hb⟩
  refine ⟨_, rfl, ?_⟩
  have HL6 := Lib.hid hl
  have HC6 := Lib.hid hC
  have HD6 := Lib.hid (HD5.out.next hb)
  have HB6 := Lib.hid hb
  clear hl hC hb
  refine hK.out _ _ ⟨HD6.out.c0, HD6.out.c1, HD6.out.c2, HD6.out.c3⟩ (fun hHeld => ?_)
  clear hK K
  refine norm_ (a' := ?_) ?_ ?_
  rotate_left
  · show Act.put _ (some 40) _ = _
    simp only [Act.put, List.setIfInBounds_toArray, List.set_cons_zero, List.set_cons_succ, i64_w, i32_w]
    rfl
  refine one_ (i := 24) (N := some 43) #[true, true, true, true, true, true, true, true, true, true, true, true, true, true, true, true, true, true, true, true, true, true, true, true, true, false, false, false] rfl rfl (by kernel_rfl) (by decide) (fun K hK => ?_)
  refine goes_ Try.func25 (by kernel_rfl) rfl #[.int .i64 n] (by rfl) rfl rfl (by simp only [List.map_toArray, List.map_cons, List.map_nil]; rfl) ?_
  with_reducible refine (keyint_c n HN.out.1 HN.out.2 _).mono ?_
  rintro e w7 ⟨A7, c7, rfl, hl, hC, hb⟩
  refine ⟨_, rfl, ?_⟩
  have HL7 := Lib.hid hl
  have HC7 := Lib.hid hC
  have HD7 := Lib.hid (HD6.out.next hb)
  have HB7 := Lib.hid hb
  clear hl hC hb
  refine hK.out _ _ ⟨HD7.out.c0, HD7.out.c1, HD7.out.c2, HD7.out.c3⟩ (fun hHeld => ?_)
  clear hK K
  refine norm_ (a' := ?_) ?_ ?_
  rotate_left
  · show Act.put _ (some 43) _ = _
    simp only [Act.put, List.setIfInBounds_toArray, List.set_cons_zero, List.set_cons_succ, i64_w, i32_w]
    rfl
  refine one_ (i := 25) (N := some 44) #[true, true, true, true, true, true, true, true, true, true, true, true, true, true, true, true, true, true, true, true, true, true, true, true, true, true, false, false] rfl rfl (by kernel_rfl) (by decide) (fun K hK => ?_)
  refine goes_ Try.func23 (by kernel_rfl) rfl #[.slice A6 8 c6, .slice A7 8 c7] (by rfl) rfl rfl (by simp only [List.map_toArray, List.map_cons, List.map_nil]; rfl) ?_
  with_reducible refine (less_c (lift m) (lift n) HLm.out.1 HLm.out.2 HLn.out.1 HLn.out.2 _ (Kd.C_below HC6.out HB7.out) HL6.out HC7.out HL7.out).mono ?_
  rintro e w8 ⟨rfl, hb⟩
  refine ⟨_, rfl, ?_⟩
  have HD8 := Lib.hid (HD7.out.next hb)
  rw [HLi.out]
  clear hb
  refine hK.out _ _ ⟨HD8.out.c0, HD8.out.c1, HD8.out.c2, HD8.out.c3⟩ (fun hHeld => ?_)
  clear hK K
  refine norm_ (a' := ?_) ?_ ?_
  rotate_left
  · show Act.put _ (some 44) _ = _
    simp only [Act.put, List.setIfInBounds_toArray, List.set_cons_zero, List.set_cons_succ, i64_w, i32_w]
    rfl
  refine pure_ (i := 26) (N := some 45) (v := ?_) (a' := ?_) #[true, true, true, true, true, true, true, true, true, true, true, true, true, true, true, true, true, true, true, true, true, true, true, true, true, true, true, false] rfl rfl (by kernel_rfl) (fun _ _ _ h => h) (Or.inl ⟨by rfl, ?_⟩) ?_ ?_
  rotate_left
  · intro w'
    go_simp
    with_reducible rfl
  rotate_left
  · simp only [Act.put, List.setIfInBounds_toArray, List.set_cons_zero, List.set_cons_succ, i64_w, i32_w]
    rfl
  refine pure_ (i := 27) (N := some 46) (v := ?_) (a' := ?_) #[true, true, true, true, true, true, true, true, true, true, true, true, true, true, true, true, true, true, true, true, true, true, true, true, true, true, true, true] rfl rfl (by kernel_rfl) (fun _ _ _ h => h) (Or.inl ⟨by rfl, ?_⟩) ?_ ?_
  rotate_left
  · intro w'
    go_simp
    with_reducible rfl
  rotate_left
  · simp only [Act.put, List.setIfInBounds_toArray, List.set_cons_zero, List.set_cons_succ, i64_w, i32_w]
    rfl
  refine done_ (by kernel_rfl) ?_
  go_wp2
  have hbd := HD8.out.next (Below.refl _ _).drew
  refine start_ (n := 18) (S := fun w' => w'.cell? ⟨N, 0, none⟩ = some (.int .u64 a) ∧ w'.cell? ⟨N, 1, none⟩ = some (.int .u64 b) ∧ w'.cell? ⟨N + 1, 0, none⟩ = some (.int .i64 m) ∧ w'.cell? ⟨N + 1, 1, none⟩ = some (.int .i64 n)) (ds := []) #[false, false, false, false, false, false, false, false, false, false, false, false, false, false, false, false, false, false] (by kernel_rfl) rfl rfl ⟨hbd.c0, hbd.c1, hbd.c2, hbd.c3⟩ (fun hHeld => ?_)
  generalize w8.drew = w12 at hbd hHeld ⊢
  have HD12 := Lib.hid hbd
  clear hbd
  refine pure_ (i := 0) (N := some 47) (v := ?_) (a' := ?_) #[true, false, false, false, false, false, false, false, false, false, false, false, false, false, false, false, false, false] rfl rfl (by kernel_rfl) (fun _ _ _ h => h) (Or.inl ⟨by rfl, ?_⟩) ?_ ?_
  rotate_left
  · intro w'
    go_simp
    with_reducible rfl
  rotate_left
  · simp only [Act.put, List.setIfInBounds_toArray, List.set_cons_zero, List.set_cons_succ, i64_w, i32_w]
    rfl
  refine pure_ (i := 3) (N := some 50) (v := ?_) (a' := ?_) #[true, false, false, true, false, false, false, false, false, false, false, false, false, false, false, false, false, false] rfl rfl (by kernel_rfl) (fun _ _ _ h => h) (Or.inl ⟨by rfl, ?_⟩) ?_ ?_
  rotate_left
  · intro w'
    go_simp
    with_reducible rfl
  rotate_left
  · simp only [Act.put, List.setIfInBounds_toArray, List.set_cons_zero, List.set_cons_succ, i64_w, i32_w]
    rfl
  refine take_ (i := 1) (N := some 48) (v := ?_) (a' := ?_) #[true, true, false, true, false, false, false, false, false, false, false, false, false, false, false, false, false, false] rfl rfl (by kernel_rfl) (fun _ _ _ h => h) (Or.inl ⟨by rfl, ?_⟩) hHeld ?_ ?_
  rotate_left
  · rintro w' ⟨s0, s1, s2, s3⟩
    go_simp
    with_reducible rfl
  rotate_left
  · simp only [Act.put, List.setIfInBounds_toArray, List.set_cons_zero, List.set_cons_succ, i64_w, i32_w]
    rfl
  refine take_ (i := 4) (N := some 51) (v := ?_) (a' := ?_) #[true, true, false, true, true, false, false, false, false, false, false, false, false, false, false, false, false, false] rfl rfl (by kernel_rfl) (fun _ _ _ h => h) (Or.inl ⟨by rfl, ?_⟩) hHeld ?_ ?_
  rotate_left
  · rintro w' ⟨s0, s1, s2, s3⟩
    go_simp
    with_reducible rfl
  rotate_left
  · simp only [Act.put, List.setIfInBounds_toArray, List.set_cons_zero, List.set_cons_succ, i64_w, i32_w]
    rfl
  refine one_ (i := 2) (N := some 49) #[true, true, true, true, true, false, false, false, false, false, false, false, false, false, false, false, false, false] rfl rfl (by kernel_rfl) (by decide) (fun K hK => ?_)
  refine goes_ Try.func24 (by kernel_rfl) rfl #[.int .u64 a] (by rfl) rfl rfl (by simp only [List.map_toArray, List.map_cons, List.map_nil]; rfl) ?_
  with_reducible refine (key_c a _).mono ?_
  rintro e w13 ⟨A13, c13, rfl, hl, hC, hb⟩
  refine ⟨_, rfl, ?_⟩
  have HL13 := Lib.hid hl
  have HC13 := Lib.hid hC
  have HD13 := Lib.hid (HD12.out.next hb)
  have HB13 := Lib.hid hb
  clear hl hC hb
  refine hK.out _ _ ⟨HD13.out.c0, HD13.out.c1, HD13.out.c2, HD13.out.c3⟩ (fun hHeld => ?_)
  clear hK K
  refine norm_ (a' := ?_) ?_ ?_
  rotate_left
  · show Act.put _ (some 49) _ = _
    simp only [Act.put, List.setIfInBounds_toArray, List.set_cons_zero, List.set_cons_succ, i64_w, i32_w]
    rfl
  refine one_ (i := 5) (N := some 52) #[true, true, true, true, true, true, false, false, false, false, false, false, false, false, false, false, false, false] rfl rfl (by kernel_rfl) (by decide) (fun K hK => ?_)
  refine goes_ Try.func26 (by kernel_rfl) rfl #[.int .u64 a] (by rfl) rfl rfl (by simp only [List.map_toArray, List.map_cons, List.map_nil]; rfl) ?_
  with_reducible refine (rkey_c a HA.out.1 HA.out.2 _).mono ?_
  rintro e w14 ⟨A14, c14, rfl, hl, hC, hb⟩
  refine ⟨_, rfl, ?_⟩
  have HL14 := Lib.hid hl
  have HC14 := Lib.hid hC
  have HD14 := Lib.hid (HD13.out.next hb)
  have HB14 := Lib.hid hb
  clear hl hC hb
  refine hK.out _ _ ⟨HD14.out.c0, HD14.out.c1, HD14.out.c2, HD14.out.c3⟩ (fun hHeld => ?_)
  clear hK K
  refine norm_ (a' := ?_) ?_ ?_
  rotate_left
  · show Act.put _ (some 52) _ = _
    simp only [Act.put, List.setIfInBounds_toArray, List.set_cons_zero, List.set_cons_succ, i64_w, i32_w]
    rfl
  refine one_ (i := 6) (N := some 53) #[true, true, true, true, true, true, true, false, false, false, false, false, false, false, false, false, false, false] rfl rfl (by kernel_rfl) (by decide) (fun K hK => ?_)
  refine goes_ Try.func19 (by kernel_rfl) rfl #[.slice A13 8 c13, .slice A14 8 c14] (by rfl) rfl rfl (by simp only [List.map_toArray, List.map_cons, List.map_nil]; rfl) ?_
  with_reducible refine (same_c a _ (Kd.C_below HC13.out HB14.out) HL13.out HC14.out HL14.out).mono ?_
  rintro e w15 ⟨rfl, hb⟩
  refine ⟨_, rfl, ?_⟩
  have HD15 := Lib.hid (HD14.out.next hb)
  clear hb
  refine hK.out _ _ ⟨HD15.out.c0, HD15.out.c1, HD15.out.c2, HD15.out.c3⟩ (fun hHeld => ?_)
  clear hK K
  refine norm_ (a' := ?_) ?_ ?_
  rotate_left
  · show Act.put _ (some 53) _ = _
    simp only [Act.put, List.setIfInBounds_toArray, List.set_cons_zero, List.set_cons_succ, i64_w, i32_w]
    rfl
  refine pure_ (i := 7) (N := some 54) (v := ?_) (a' := ?_) #[true, true, true, true, true, true, true, true, false, false, false, false, false, false, false, false, false, false] rfl rfl (by kernel_rfl) (fun _ _ _ h => h) (Or.inl ⟨by rfl, ?_⟩) ?_ ?_
  rotate_left
  · intro w'
    go_simp
    with_reducible rfl
  rotate_left
  · simp only [Act.put, List.setIfInBounds_toArray, List.set_cons_zero, List.set_cons_succ, i64_w, i32_w]
    rfl
  refine pure_ (i := 8) (N := some 55) (v := ?_) (a' := ?_) #[true, true, true, true, true, true, true, true, true, false, false, false, false, false, false, false, false, false] rfl rfl (by kernel_rfl) (fun _ _ _ h => h) (Or.inl ⟨by rfl, ?_⟩) ?_ ?_
  rotate_left
  · intro w'
    go_simp
    with_reducible rfl
  rotate_left
  · simp only [Act.put, List.setIfInBounds_toArray, List.set_cons_zero, List.set_cons_succ, i64_w, i32_w]
    rfl
  refine pure_ (i := 9) (N := some 56) (v := ?_) (a' := ?_) #[true, true, true, true, true, true, true, true, true, true, false, false, false, false, false, false, false, false] rfl rfl (by kernel_rfl) (fun _ _ _ h => h) (Or.inl ⟨by rfl, ?_⟩) ?_ ?_
  rotate_left
  · intro w'
    go_simp
    with_reducible rfl
  rotate_left
  · simp only [Act.put, List.setIfInBounds_toArray, List.set_cons_zero, List.set_cons_succ, i64_w, i32_w]
    rfl
  refine pure_ (i := 12) (N := some 59) (v := ?_) (a' := ?_) #[true, true, true, true, true, true, true, true, true, true, false, false, true, false, false, false, false, false] rfl rfl (by kernel_rfl) (fun _ _ _ h => h) (Or.inl ⟨by rfl, ?_⟩) ?_ ?_
  rotate_left
  · intro w'
    go_simp
    with_reducible rfl
  rotate_left
  · simp only [Act.put, List.setIfInBounds_toArray, List.set_cons_zero, List.set_cons_succ, i64_w, i32_w]
    rfl
  refine take_ (i := 10) (N := some 57) (v := ?_) (a' := ?_) #[true, true, true, true, true, true, true, true, true, true, true, false, true, false, false, false, false, false] rfl rfl (by kernel_rfl) (fun _ _ _ h => h) (Or.inl ⟨by rfl, ?_⟩) hHeld ?_ ?_
  rotate_left
  · rintro w' ⟨s0, s1, s2, s3⟩
    go_simp
    with_reducible rfl
  rotate_left
  · simp only [Act.put, List.setIfInBounds_toArray, List.set_cons_zero, List.set_cons_succ, i64_w, i32_w]
    rfl
  refine take_ (i := 13) (N := some 60) (v := ?_) (a' := ?_) #[true, true, true, true, true, true, true, true, true, true, true, false, true, true, false, false, false, false] rfl rfl (by kernel_rfl) (fun _ _ _ h => h) (Or.inl ⟨by rfl, ?_⟩) hHeld ?_ ?_
  rotate_left
  · rintro w' ⟨s0, s1, s2, s3⟩
    go_simp
    with_reducible rfl
  rotate_left
  · simp only [Act.put, List.setIfInBounds_toArray, List.set_cons_zero, List.set_cons_succ, i64_w, i32_w]
    rfl
  refine one_ (i := 11) (N := some 58) #[true, true, true, true, true, true, true, true, true, true, true, true, true, true, false, false, false, false] rfl rfl (by kernel_rfl) (by decide) (fun K hK => ?_)
  refine goes_ Try.func25 (by kernel_rfl) rfl #[.int .i64 m] (by rfl) rfl rfl (by simp only [List.map_toArray, List.map_cons, List.map_nil]; rfl) ?_
  with_reducible refine (keyint_c m HM.out.1 HM.out.2 _).mono ?_
  rintro e w16 ⟨A16, c16, rfl, hl, hC, hb⟩
  refine ⟨_, rfl, ?_⟩
  have HL16 := Lib.hid hl
  have HC16 := Lib.hid hC
  have HD16 := Lib.hid (HD15.out.next hb)
  have HB16 := Lib.hid hb
  clear hl hC hb
  refine hK.out _ _ ⟨HD16.out.c0, HD16.out.c1, HD16.out.c2, HD16.out.c3⟩ (fun hHeld => ?_)
  clear hK K
  refine norm_ (a' := ?_) ?_ ?_
  rotate_left
  · show Act.put _ (some 58) _ = _
    simp only [Act.put, List.setIfInBounds_toArray, List.set_cons_zero, List.set_cons_succ, i64_w, i32_w]
    rfl
  refine one_ (i := 14) (N := some 61) #[true, true, true, true, true, true, true, true, true, true, true, true, true, true, true, false, false, false] rfl rfl (by kernel_rfl) (by decide) (fun K hK => ?_)
  refine goes_ Try.func27 (by kernel_rfl) rfl #[.int .i64 m] (by rfl) rfl rfl (by simp only [List.map_toArray, List.map_cons, List.map_nil]; rfl) ?_
  with_reducible refine (rkeyint_c m HM.out.1 HM.out.2 _).mono ?_
  rintro e w17 ⟨A17, c17, rfl, hl, hC, hb⟩
  refine ⟨_, rfl, ?_⟩
  have HL17 := Lib.hid hl
  have HC17 := Lib.hid hC
  have HD17 := Lib.hid (HD16.out.next hb)
  have HB17 := Lib.hid hb
  clear hl hC hb
  refine hK.out _ _ ⟨HD17.out.c0, HD17.out.c1, HD17.out.c2, HD17.out.c3⟩ (fun hHeld => ?_)
  clear hK K
  refine norm_ (a' := ?_) ?_ ?_
  rotate_left
  · show Act.put _ (some 61) _ = _
    simp only [Act.put, List.setIfInBounds_toArray, List.set_cons_zero, List.set_cons_succ, i64_w, i32_w]
    rfl
  refine one_ (i := 15) (N := some 62) #[true, true, true, true, true, true, true, true, true, true, true, true, true, true, true, true, false, false] rfl rfl (by kernel_rfl) (by decide) (fun K hK => ?_)
  refine goes_ Try.func19 (by kernel_rfl) rfl #[.slice A16 8 c16, .slice A17 8 c17] (by rfl) rfl rfl (by simp only [List.map_toArray, List.map_cons, List.map_nil]; rfl) ?_
  with_reducible refine (same_c (lift m) _ (Kd.C_below HC16.out HB17.out) HL16.out HC17.out HL17.out).mono ?_
  rintro e w18 ⟨rfl, hb⟩
  refine ⟨_, rfl, ?_⟩
  have HD18 := Lib.hid (HD17.out.next hb)
  clear hb
  refine hK.out _ _ ⟨HD18.out.c0, HD18.out.c1, HD18.out.c2, HD18.out.c3⟩ (fun hHeld => ?_)
  clear hK K
  refine norm_ (a' := ?_) ?_ ?_
  rotate_left
  · show Act.put _ (some 62) _ = _
    simp only [Act.put, List.setIfInBounds_toArray, List.set_cons_zero, List.set_cons_succ, i64_w, i32_w]
    rfl
  refine pure_ (i := 16) (N := some 63) (v := ?_) (a' := ?_) #[true, true, true, true, true, true, true, true, true, true, true, true, true, true, true, true, true, false] rfl rfl (by kernel_rfl) (fun _ _ _ h => h) (Or.inl ⟨by rfl, ?_⟩) ?_ ?_
  rotate_left
  · intro w'
    go_simp
    with_reducible rfl
  rotate_left
  · simp only [Act.put, List.setIfInBounds_toArray, List.set_cons_zero, List.set_cons_succ, i64_w, i32_w]
    rfl
  refine pure_ (i := 17) (N := some 64) (v := ?_) (a' := ?_) #[true, true, true, true, true, true, true, true, true, true, true, true, true, true, true, true, true, true] rfl rfl (by kernel_rfl) (fun _ _ _ h => h) (Or.inl ⟨by rfl, ?_⟩) ?_ ?_
  rotate_left
  · intro w'
    go_simp
    with_reducible rfl
  rotate_left
  · simp only [Act.put, List.setIfInBounds_toArray, List.set_cons_zero, List.set_cons_succ, i64_w, i32_w]
    rfl
  refine done_ (by kernel_rfl) ?_
  have k0 := HD18.out.c0
  go_wp2_with fail
  refine (key_c a _).mono ?_
  rintro e w20 ⟨A20, c20, rfl, hl, hC, hb⟩
  have HL20 := Lib.hid hl
  have HC20 := Lib.hid hC
  have HD20 := Lib.hid (HD18.out.next hb)
  clear hl hC hb
  go_wp2_with fail
  refine (unkey_c a HA.out.1 HA.out.2 _ HC20.out HL20.out).mono ?_
  rintro e w21 ⟨rfl, hb⟩
  have HD21 := Lib.hid (HD20.out.next hb)
  have k1 := HD21.out.c2
  clear hb
  go_wp2_with fail
  refine (keyint_c m HM.out.1 HM.out.2 _).mono ?_
  rintro e w22 ⟨A22, c22, rfl, hl, hC, hb⟩
  have HL22 := Lib.hid hl
  have HC22 := Lib.hid hC
  have HD22 := Lib.hid (HD21.out.next hb)
  clear hl hC hb
  go_wp2_with fail
  refine (unkeyint_c m HM.out.1 HM.out.2 _ HC22.out HL22.out).mono ?_
  rintro e w23 ⟨rfl, hb⟩
  have HD23 := Lib.hid (HD22.out.next hb)
  clear hb
  obtain ⟨p, was, hun⟩ : ∃ p was, num_Unkey.f l = some (p, was) := by
    unfold num_Unkey.f
    split
    · rw [if_pos HBy.out]; exact ⟨_, _, rfl⟩
    · exact ⟨_, _, rfl⟩
  obtain ⟨q, hui⟩ : ∃ q, num_UnkeyInt.f l = some (q, ((l.length : Int) == 8)) := by
    rw [unkeyint_of l HBy.out]
    split
    · exact ⟨_, by rw [show ((l.length : Int) == 8) = true from beq_iff_eq.2 (by omega)]⟩
    · exact ⟨_, by rw [show ((l.length : Int) == 8) = false from beq_eq_false_iff_ne.2 (by omega)]⟩
  have HUn := Lib.hid hun
  have HUi := Lib.hid hui
  clear hun hui
  go_wp2_with fail
  refine (num_Unkey.calls A c l p was _ (Kd.C_below HC.out HD23.out.bw) HL.out HUn.out).mono ?_
  rintro e w24 ⟨rfl, hb⟩
  have HD24 := Lib.hid (HD23.out.next hb)
  clear hb
  go_wp2_with fail
  refine (cambiumref01_Unkey.calls 30 A c l p was _ (Kd.C_below HC.out HD24.out.bw) HL.out (by rw [runkey_eq 30 l HBy.out (by omega)]; exact HUn.out)).mono ?_
  rintro e w25 ⟨rfl, hb⟩
  have HD25 := Lib.hid (HD24.out.next hb.below)
  clear hb
  go_wp2_with fail
  refine (num_UnkeyInt.calls A c l q _ _ (Kd.C_below HC.out HD25.out.bw) HL.out HUi.out).mono ?_
  rintro e w26 ⟨rfl, hb⟩
  have HD26 := Lib.hid (HD25.out.next hb)
  have k26 := HD26.out.c0
  have k27 := HD26.out.c2
  clear hb
  generalize hq : ((l.length : Int) == 8) = bq
  have hbw := HD26.out.bw
  have HBw := Lib.hid hbw
  clear hbw
  go_wp2
  go_ret
  exact ⟨rfl, HBw.out⟩

end Go.Proofs.Ytpeimbbgaccddaa.Walk
