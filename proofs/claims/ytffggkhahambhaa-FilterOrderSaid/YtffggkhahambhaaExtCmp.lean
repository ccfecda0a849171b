/- A value as what it is: a text, a number, a truth, by hand (span.plain); what the assertions on it tell. -/
import Derived.Test.YtffggkhahambhaaBlocks
import Derived.Test.YtffggkhahambhaaRd
import Derived.Outline
import Derived.Test.YtffggkhahambhaaLaysC
import Derived.Test.YtffggkhahambhaaPLowx1
namespace Go.Proofs.Ytffggkhahambhaa.Span
open Go.RowKit Go.Proofs.YtffggkhahambhaaW.PrintWords Go.Proofs.YtffggkhahambhaaW.PrintLast Go.Proofs.YtffggkhahambhaaW.PrintMore Go.Proofs.Ytffggkhahambhaa.Math
set_option linter.unusedVariables false
set_option linter.unusedSimpArgs false
/-- What plain tells of a value. -/
def plainV (k : Int) (s : ByteArray) (n : Int) (b : Bool) : Value :=
  if k = 0 then .iface 9 (.string s) else if k = 1 then .iface 2 (.int .i64 n) else if k = 2 then .iface 4 (.bool b) else .nilIface
def val (k : Int) (s : ByteArray) (n : Int) (b : Bool) : Value := .agg #[.int .i64 k, .string s, .int .i64 n, .bool b]
theorem plain_calls (k : Int) (s : ByteArray) (n : Int) (b : Bool) (w : World) :
    Calls Try.prog 61 #[val k s n b] w fun e w' => e = .returned (plainV k s n b) ∧ Below w.heap.size w w' := by
  unfold val
  by_cases h0 : k = 0
  · subst h0
    go_enter Try.func61, Try.ntmps61
    go_wp2
    go_ret
    exact ⟨rfl, below_alloc (Below.refl _ _) _⟩
  · have h0b : (k == 0) = false := beq_eq_false_iff_ne.mpr h0
    by_cases h1 : k = 1
    · subst h1
      go_enter Try.func61, Try.ntmps61
      go_wp2
      go_ret
      exact ⟨rfl, below_alloc (Below.refl _ _) _⟩
    · have h1b : (k == 1) = false := beq_eq_false_iff_ne.mpr h1
      by_cases h2 : k = 2
      · subst h2
        go_enter Try.func61, Try.ntmps61
        go_wp2
        go_ret
        exact ⟨rfl, below_alloc (Below.refl _ _) _⟩
      · have h2b : (k == 2) = false := beq_eq_false_iff_ne.mpr h2
        go_enter Try.func61, Try.ntmps61
        go_wp2
        go_ret
        exact ⟨by unfold plainV; rw [if_neg h0, if_neg h1, if_neg h2]; rfl, below_alloc (Below.refl _ _) _⟩
section
variable (w : World)
theorem ta_s (s : ByteArray) (xT : TypeId) : (Instr.typeAssert (.iface 9 (.string s)) xT 9 true).run Try.prog w = .ok (.tuple #[.string s, .bool true]) w := by
  simp [Instr.typeAssert, run_underlying Try.underlying9]
theorem ta_s1 (s : ByteArray) (xT : TypeId) : (Instr.typeAssert (.iface 9 (.string s)) xT 9 false).run Try.prog w = .ok (.string s) w := by
  simp [Instr.typeAssert, run_underlying Try.underlying9]
theorem ta_n (n : Int) (xT : TypeId) : (Instr.typeAssert (.iface 2 (.int .i64 n)) xT 2 true).run Try.prog w = .ok (.tuple #[.int .i64 n, .bool true]) w := by
  simp [Instr.typeAssert, run_underlying Try.underlying2]
theorem ta_n1 (n : Int) (xT : TypeId) : (Instr.typeAssert (.iface 2 (.int .i64 n)) xT 2 false).run Try.prog w = .ok (.int .i64 n) w := by
  simp [Instr.typeAssert, run_underlying Try.underlying2]
theorem ta_b (b : Bool) (xT : TypeId) : (Instr.typeAssert (.iface 4 (.bool b)) xT 4 true).run Try.prog w = .ok (.tuple #[.bool b, .bool true]) w := by
  simp [Instr.typeAssert, run_underlying Try.underlying4]
theorem ta_b1 (b : Bool) (xT : TypeId) : (Instr.typeAssert (.iface 4 (.bool b)) xT 4 false).run Try.prog w = .ok (.bool b) w := by
  simp [Instr.typeAssert, run_underlying Try.underlying4]
theorem ta_sn (v : Value) (xT : TypeId) : (Instr.typeAssert (.iface 2 v) xT 9 true).run Try.prog w = .ok (.tuple #[.string ⟨#[]⟩, .bool false]) w := by
  simp [Instr.typeAssert, run_underlying Try.underlying9, Try.zeroValue9]
theorem ta_sb (v : Value) (xT : TypeId) : (Instr.typeAssert (.iface 4 v) xT 9 true).run Try.prog w = .ok (.tuple #[.string ⟨#[]⟩, .bool false]) w := by
  simp [Instr.typeAssert, run_underlying Try.underlying9, Try.zeroValue9]
theorem ta_snil (xT : TypeId) : (Instr.typeAssert .nilIface xT 9 true).run Try.prog w = .ok (.tuple #[.string ⟨#[]⟩, .bool false]) w := by
  simp [Instr.typeAssert, run_underlying Try.underlying9, Try.zeroValue9]
theorem ta_nb (v : Value) (xT : TypeId) : (Instr.typeAssert (.iface 4 v) xT 2 true).run Try.prog w = .ok (.tuple #[.int .i64 0, .bool false]) w := by
  simp [Instr.typeAssert, run_underlying Try.underlying2, Try.zeroValue2]
theorem ta_nnil (xT : TypeId) : (Instr.typeAssert .nilIface xT 2 true).run Try.prog w = .ok (.tuple #[.int .i64 0, .bool false]) w := by
  simp [Instr.typeAssert, run_underlying Try.underlying2, Try.zeroValue2]
theorem ta_bnil (xT : TypeId) : (Instr.typeAssert .nilIface xT 4 true).run Try.prog w = .ok (.tuple #[.bool false, .bool false]) w := by
  simp [Instr.typeAssert, run_underlying Try.underlying4, Try.zeroValue4]
end
end Go.Proofs.Ytffggkhahambhaa.Span

namespace Go.Proofs.Ytffggkhahambhaa.Span
open Go.RowKit Go.Proofs.YtffggkhahambhaaW.PrintWords Go.Proofs.YtffggkhahambhaaW.PrintLast Go.Proofs.YtffggkhahambhaaW.PrintMore Go.Proofs.Ytffggkhahambhaa.Math
open Go.Proofs.Ytffggkhahambhaa.PLow
attribute [local go_sem] ta_s ta_s1 ta_n ta_n1 ta_b ta_b1 ta_sn ta_sb ta_snil ta_nb ta_nnil ta_bnil
set_option linter.unusedVariables false
set_option linter.unusedSimpArgs false
def cmpI (a b : Int) : Int := if a < b then -1 else if a > b then 1 else 0
def b2i (b : Bool) : Int := if b = true then 1 else 0
/-- How two values stand. -/
def cmpV (k0 : Int) (s0 : ByteArray) (n0 : Int) (b0 : Bool) (k1 : Int) (s1 : ByteArray) (n1 : Int) (b1 : Bool) : Int × Bool :=
  if k0 = k1 then (if k0 = 0 then (Lib.compareBytes s0.data.toList s1.data.toList, true) else if k0 = 1 then (cmpI n0 n1, true) else if k0 = 2 then (cmpI (b2i b0) (b2i b1), true) else (0, false)) else (0, false)
theorem cmp64 (a b : Int) : cmp_Compare_int64.f a b = some (cmpI a b) := by
  unfold cmp_Compare_int64.f cmp_isNaN_int64.f cmpI
  simp
  split
  · rfl
  · split <;> rfl
theorem cmpInt (a b : Int) : cmp_Compare_int.f a b = some (cmpI a b) := by
  unfold cmp_Compare_int.f cmp_isNaN_int.f cmpI
  simp
  split
  · rfl
  · split <;> rfl
theorem orderB (b : Bool) : span_order.f b = some (b2i b) := by
  unfold span_order.f b2i
  split <;> rfl
theorem strcmp_calls (a b : ByteArray) (w : World) :
    Calls Try.prog 62 #[.string a, .string b] w fun e w' => e = .returned (.int .i64 (Lib.compareBytes a.data.toList b.data.toList)) ∧ w' = w := by
  have h := Any.strings_Compare Try.laysCompare a b w
  change Calls Try.prog 62 _ _ _ at h
  exact h
set_option maxHeartbeats 4000000 in
set_option maxRecDepth 100000 in
theorem compare_calls (k0 : Int) (s0 : ByteArray) (n0 : Int) (b0 : Bool) (k1 : Int) (s1 : ByteArray) (n1 : Int) (b1 : Bool) (w : World) :
    Calls Try.prog 41 #[val k0 s0 n0 b0, val k1 s1 n1 b1] w fun e w' => e = .returned (.tuple #[.int .i64 (cmpV k0 s0 n0 b0 k1 s1 n1 b1).1, .bool (cmpV k0 s0 n0 b0 k1 s1 n1 b1).2]) ∧ Below w.heap.size w w' := by
  by_cases hk : k0 = k1
  · subst hk
    have hkb : (k0 != k0) = false := bne_self_eq_false k0
    obtain ⟨X0, hX0⟩ : ∃ X, X = plainV k0 s0 n0 b0 := ⟨_, rfl⟩
    obtain ⟨X1, hX1⟩ : ∃ X, X = plainV k0 s1 n1 b1 := ⟨_, rfl⟩
    have hp0 : ∀ w, Calls Try.prog 61 #[.agg #[.int .i64 k0, .string s0, .int .i64 n0, .bool b0]] w fun e w' => e = .returned X0 ∧ Below w.heap.size w w' := fun w => by rw [hX0]; exact plain_calls k0 s0 n0 b0 w
    have hp1 : ∀ w, Calls Try.prog 61 #[.agg #[.int .i64 k0, .string s1, .int .i64 n1, .bool b1]] w fun e w' => e = .returned X1 ∧ Below w.heap.size w w' := fun w => by rw [hX1]; exact plain_calls k0 s1 n1 b1 w
    have HP0 := Lib.hid hp0
    have HP1 := Lib.hid hp1
    have HX0 := Lib.hid hX0
    have HX1 := Lib.hid hX1
    clear hp0 hp1 hX0 hX1
    have ha := heap_alloc2_old w (.cells #[.int .i64 k0, .string s0, .int .i64 n0, .bool b0] 39) (.cells #[.int .i64 k0, .string s1, .int .i64 n1, .bool b1] 39)
    have hb := heap_alloc2_new w (.cells #[.int .i64 k0, .string s0, .int .i64 n0, .bool b0] 39) (.cells #[.int .i64 k0, .string s1, .int .i64 n1, .bool b1] 39)
    have HBW := Lib.hid (below_alloc (below_alloc (Below.refl w.heap.size w) (.cells #[.int .i64 k0, .string s0, .int .i64 n0, .bool b0] 39)) (.cells #[.int .i64 k0, .string s1, .int .i64 n1, .bool b1] 39))
    have HA := Lib.hid ha
    have HB := Lib.hid hb
    clear ha hb
    unfold val
    go_enter Try.func41, Try.ntmps41
    go_wp2
    have ha := blk_drew HA.out
    have hb := blk_drew HB.out
    have hbw := HBW.out.drew
    clear HA HB HBW
    refine start_ (n := 6) (S := fun w' => w'.cell? ⟨w.heap.size, 0, none⟩ = some (.int .i64 k0) ∧ w'.cell? ⟨w.heap.size, 1, none⟩ = some (.string s0) ∧ w'.cell? ⟨w.heap.size, 2, none⟩ = some (.int .i64 n0) ∧ w'.cell? ⟨w.heap.size, 3, none⟩ = some (.bool b0) ∧ w'.cell? ⟨w.heap.size + 1, 0, none⟩ = some (.int .i64 k0) ∧ w'.cell? ⟨w.heap.size + 1, 1, none⟩ = some (.string s1) ∧ w'.cell? ⟨w.heap.size + 1, 2, none⟩ = some (.int .i64 n1) ∧ w'.cell? ⟨w.heap.size + 1, 3, none⟩ = some (.bool b1)) (ds := []) #[false, false, false, false, false, false] (by kernel_rfl) rfl rfl ⟨(blk_cell ha 0).trans rfl, (blk_cell ha 1).trans rfl, (blk_cell ha 2).trans rfl, (blk_cell ha 3).trans rfl, (blk_cell hb 0).trans rfl, (blk_cell hb 1).trans rfl, (blk_cell hb 2).trans rfl, (blk_cell hb 3).trans rfl⟩ (fun hHeld => ?_)
    generalize ((w.alloc (.cells #[.int .i64 k0, .string s0, .int .i64 n0, .bool b0] 39)).alloc (.cells #[.int .i64 k0, .string s1, .int .i64 n1, .bool b1] 39)).drew = w5 at ha hb hbw hHeld ⊢
    have HA5 := Lib.hid ha
    have HB5 := Lib.hid hb
    have HBW5 := Lib.hid hbw
    clear ha hb hbw
    refine take_ (i := 0) (N := some 19) (v := ?_) (a' := ?_) #[true, false, false, false, false, false] rfl rfl (by kernel_rfl) (fun _ _ _ h => h) (Or.inl ⟨by rfl, ?_⟩) hHeld ?_ ?_
    rotate_left
    · rintro w' ⟨s0, s1, s2, s3, s4, s5, s6, s7⟩
      go_simp
      with_reducible rfl
    rotate_left
    · simp only [Act.put, List.setIfInBounds_toArray, List.set_cons_zero, List.set_cons_succ, i64_w, i32_w]
      rfl
    refine take_ (i := 2) (N := some 21) (v := ?_) (a' := ?_) #[true, false, true, false, false, false] rfl rfl (by kernel_rfl) (fun _ _ _ h => h) (Or.inl ⟨by rfl, ?_⟩) hHeld ?_ ?_
    rotate_left
    · rintro w' ⟨s0, s1, s2, s3, s4, s5, s6, s7⟩
      go_simp
      with_reducible rfl
    rotate_left
    · simp only [Act.put, List.setIfInBounds_toArray, List.set_cons_zero, List.set_cons_succ, i64_w, i32_w]
      rfl
    refine one_ (i := 1) (N := some 20) #[true, true, true, false, false, false] rfl rfl (by kernel_rfl) (by decide) (fun K hK => ?_)
    refine goes_ Try.func61 (by kernel_rfl) rfl #[.agg #[.int .i64 k0, .string s0, .int .i64 n0, .bool b0]] (by rfl) rfl rfl (by simp only [List.map_toArray, List.map_cons, List.map_nil]; rfl) ?_
    with_reducible refine (HP0.out _).mono ?_
    rintro e w6 ⟨rfl, hb6⟩
    refine ⟨_, rfl, ?_⟩
    have HA6 := Lib.hid (block_below HA5.out hb6)
    have HB6 := Lib.hid (block_below HB5.out hb6)
    have HBW6 := Lib.hid (below_step HBW5.out hb6)
    clear hb6
    refine hK.out _ _ ⟨(blk_cell HA6.out 0).trans rfl, (blk_cell HA6.out 1).trans rfl, (blk_cell HA6.out 2).trans rfl, (blk_cell HA6.out 3).trans rfl, (blk_cell HB6.out 0).trans rfl, (blk_cell HB6.out 1).trans rfl, (blk_cell HB6.out 2).trans rfl, (blk_cell HB6.out 3).trans rfl⟩ (fun hHeld => ?_)
    clear hK K
    refine norm_ (a' := ?_) ?_ ?_
    rotate_left
    · show Act.put _ (some 20) _ = _
      simp only [Act.put, List.setIfInBounds_toArray, List.set_cons_zero, List.set_cons_succ, i64_w, i32_w]
      rfl
    refine one_ (i := 3) (N := some 22) #[true, true, true, true, false, false] rfl rfl (by kernel_rfl) (by decide) (fun K hK => ?_)
    refine goes_ Try.func61 (by kernel_rfl) rfl #[.agg #[.int .i64 k0, .string s1, .int .i64 n1, .bool b1]] (by rfl) rfl rfl (by simp only [List.map_toArray, List.map_cons, List.map_nil]; rfl) ?_
    with_reducible refine (HP1.out _).mono ?_
    rintro e w7 ⟨rfl, hb7⟩
    refine ⟨_, rfl, ?_⟩
    have HA7 := Lib.hid (block_below HA6.out hb7)
    have HB7 := Lib.hid (block_below HB6.out hb7)
    have HBW7 := Lib.hid (below_step HBW6.out hb7)
    clear hb7
    refine hK.out _ _ ⟨(blk_cell HA7.out 0).trans rfl, (blk_cell HA7.out 1).trans rfl, (blk_cell HA7.out 2).trans rfl, (blk_cell HA7.out 3).trans rfl, (blk_cell HB7.out 0).trans rfl, (blk_cell HB7.out 1).trans rfl, (blk_cell HB7.out 2).trans rfl, (blk_cell HB7.out 3).trans rfl⟩ (fun hHeld => ?_)
    clear hK K
    refine norm_ (a' := ?_) ?_ ?_
    rotate_left
    · show Act.put _ (some 22) _ = _
      simp only [Act.put, List.setIfInBounds_toArray, List.set_cons_zero, List.set_cons_succ, i64_w, i32_w]
      rfl
    refine pure_ (i := 4) (N := some 6) (v := ?_) (a' := ?_) #[true, true, true, true, true, false] rfl rfl (by kernel_rfl) (fun _ _ _ h => h) (Or.inl ⟨by rfl, ?_⟩) ?_ ?_
    rotate_left
    · intro w'
      go_simp
      with_reducible rfl
    rotate_left
    · simp only [Act.put, List.setIfInBounds_toArray, List.set_cons_zero, List.set_cons_succ, i64_w, i32_w]
      rfl
    refine pure_ (i := 5) (N := some 7) (v := ?_) (a' := ?_) #[true, true, true, true, true, true] rfl rfl (by kernel_rfl) (fun _ _ _ h => h) (Or.inl ⟨by rfl, ?_⟩) ?_ ?_
    rotate_left
    · intro w'
      go_simp
      with_reducible rfl
    rotate_left
    · simp only [Act.put, List.setIfInBounds_toArray, List.set_cons_zero, List.set_cons_succ, i64_w, i32_w]
      rfl
    refine done_ (by kernel_rfl) ?_
    have hx0 := HX0.out
    have hx1 := HX1.out
    have hbw := HBW7.out
    clear HA5 HB5 HBW5 HA6 HB6 HBW6 HA7 HB7 HBW7 HP0 HP1 HX0 HX1
    by_cases h0 : k0 = 0
    · subst h0
      have e0 : X0 = .iface 9 (.string s0) := hx0
      have e1 : X1 = .iface 9 (.string s1) := hx1
      have hc : cmpV 0 s0 n0 b0 0 s1 n1 b1 = (Lib.compareBytes s0.data.toList s1.data.toList, true) := rfl
      have HC := Lib.hid hc
      clear hx0 hx1 hc
      subst e0 e1
      have HBW := Lib.hid hbw
      clear hbw
      go_wp2_with (first | (go_at_call 62; (with_reducible refine (strcmp_calls s0 s1 _).mono ?_); rintro e w8 ⟨rfl, rfl⟩))
      go_ret2
      exact ⟨by rw [HC.out]; rfl, HBW.out⟩
    · by_cases h1 : k0 = 1
      · subst h1
        have e0 : X0 = .iface 2 (.int .i64 n0) := hx0
        have e1 : X1 = .iface 2 (.int .i64 n1) := hx1
        have hc : cmpV 1 s0 n0 b0 1 s1 n1 b1 = (cmpI n0 n1, true) := rfl
        have HC := Lib.hid hc
        clear hx0 hx1 hc
        subst e0 e1
        have HBW := Lib.hid hbw
        clear hbw
        go_wp2_with (first | (go_at_call 38; (with_reducible refine (cmp_Compare_int64.calls n0 n1 _ _ (cmp64 n0 n1)).mono ?_); rintro e w8 ⟨rfl, hb8⟩; have HBW8 := Lib.hid (below_step HBW.out hb8.below); clear hb8))
        go_ret2
        exact ⟨by rw [HC.out]; rfl, HBW8.out⟩
      · by_cases h2 : k0 = 2
        · subst h2
          have e0 : X0 = .iface 4 (.bool b0) := hx0
          have e1 : X1 = .iface 4 (.bool b1) := hx1
          have hc : cmpV 2 s0 n0 b0 2 s1 n1 b1 = (cmpI (b2i b0) (b2i b1), true) := rfl
          have HC := Lib.hid hc
          clear hx0 hx1 hc
          subst e0 e1
          have HBW := Lib.hid hbw
          clear hbw
          go_wp2
          have hbw := HBW.out.drew
          clear HBW
          refine start_ (n := 8) (S := fun w' => True) (ds := []) #[false, false, false, false, false, false, false, false] (by kernel_rfl) rfl rfl trivial (fun hHeld => ?_)
          generalize w7.drew = w8 at hbw ⊢
          have HBW8 := Lib.hid hbw
          clear hbw
          refine pure_ (i := 0) (N := some 49) (v := ?_) (a' := ?_) #[true, false, false, false, false, false, false, false] rfl rfl (by kernel_rfl) (fun _ _ _ h => h) (Or.inl ⟨by rfl, ?_⟩) ?_ ?_
          rotate_left
          · intro w'
            go_simp
            with_reducible rfl
          rotate_left
          · simp only [Act.put, List.setIfInBounds_toArray, List.set_cons_zero, List.set_cons_succ, i64_w, i32_w]
            rfl
          refine pure_ (i := 2) (N := some 51) (v := ?_) (a' := ?_) #[true, false, true, false, false, false, false, false] rfl rfl (by kernel_rfl) (fun _ _ _ h => h) (Or.inl ⟨by rfl, ?_⟩) ?_ ?_
          rotate_left
          · intro w'
            go_simp
            with_reducible rfl
          rotate_left
          · simp only [Act.put, List.setIfInBounds_toArray, List.set_cons_zero, List.set_cons_succ, i64_w, i32_w]
            rfl
          refine pure_ (i := 3) (N := some 52) (v := ?_) (a' := ?_) #[true, false, true, true, false, false, false, false] rfl rfl (by kernel_rfl) (fun _ _ _ h => h) (Or.inl ⟨by rfl, ?_⟩) ?_ ?_
          rotate_left
          · intro w'
            go_simp
            with_reducible rfl
          rotate_left
          · simp only [Act.put, List.setIfInBounds_toArray, List.set_cons_zero, List.set_cons_succ, i64_w, i32_w]
            rfl
          refine one_ (i := 1) (N := some 50) #[true, true, true, true, false, false, false, false] rfl rfl (by kernel_rfl) (by decide) (fun K hK => ?_)
          refine goes_ Try.func64 (by kernel_rfl) rfl #[.bool b0] (by rfl) rfl rfl (by simp only [List.map_toArray, List.map_cons, List.map_nil]; rfl) ?_
          with_reducible refine (span_order.calls b0 _ _ (orderB b0)).mono ?_
          rintro e w9 ⟨rfl, hb9⟩
          refine ⟨_, rfl, ?_⟩
          have HBW9 := Lib.hid (below_step HBW8.out hb9.below)
          clear hb9
          refine hK.out _ _ trivial (fun hHeld => ?_)
          clear hK K
          refine norm_ (a' := ?_) ?_ ?_
          rotate_left
          · show Act.put _ (some 50) _ = _
            simp only [Act.put, List.setIfInBounds_toArray, List.set_cons_zero, List.set_cons_succ, i64_w, i32_w]
            rfl
          refine one_ (i := 4) (N := some 53) #[true, true, true, true, true, false, false, false] rfl rfl (by kernel_rfl) (by decide) (fun K hK => ?_)
          refine goes_ Try.func64 (by kernel_rfl) rfl #[.bool b1] (by rfl) rfl rfl (by simp only [List.map_toArray, List.map_cons, List.map_nil]; rfl) ?_
          with_reducible refine (span_order.calls b1 _ _ (orderB b1)).mono ?_
          rintro e w10 ⟨rfl, hb10⟩
          refine ⟨_, rfl, ?_⟩
          have HBW10 := Lib.hid (below_step HBW9.out hb10.below)
          clear hb10
          refine hK.out _ _ trivial (fun hHeld => ?_)
          clear hK K
          refine norm_ (a' := ?_) ?_ ?_
          rotate_left
          · show Act.put _ (some 53) _ = _
            simp only [Act.put, List.setIfInBounds_toArray, List.set_cons_zero, List.set_cons_succ, i64_w, i32_w]
            rfl
          refine one_ (i := 5) (N := some 54) #[true, true, true, true, true, true, false, false] rfl rfl (by kernel_rfl) (by decide) (fun K hK => ?_)
          refine goes_ Try.func63 (by kernel_rfl) rfl #[.int .i64 (b2i b0), .int .i64 (b2i b1)] (by rfl) rfl rfl (by simp only [List.map_toArray, List.map_cons, List.map_nil]; rfl) ?_
          with_reducible refine (cmp_Compare_int.calls _ _ _ _ (cmpInt (b2i b0) (b2i b1))).mono ?_
          rintro e w11 ⟨rfl, hb11⟩
          refine ⟨_, rfl, ?_⟩
          have HBW11 := Lib.hid (below_step HBW10.out hb11.below)
          clear hb11
          refine hK.out _ _ trivial (fun hHeld => ?_)
          clear hK K
          refine norm_ (a' := ?_) ?_ ?_
          rotate_left
          · show Act.put _ (some 54) _ = _
            simp only [Act.put, List.setIfInBounds_toArray, List.set_cons_zero, List.set_cons_succ, i64_w, i32_w]
            rfl
          refine pure_ (i := 6) (N := some 4) (v := ?_) (a' := ?_) #[true, true, true, true, true, true, true, false] rfl rfl (by kernel_rfl) (fun _ _ _ h => h) (Or.inl ⟨by rfl, ?_⟩) ?_ ?_
          rotate_left
          · intro w'
            go_simp
            with_reducible rfl
          rotate_left
          · simp only [Act.put, List.setIfInBounds_toArray, List.set_cons_zero, List.set_cons_succ, i64_w, i32_w]
            rfl
          refine pure_ (i := 7) (N := some 5) (v := ?_) (a' := ?_) #[true, true, true, true, true, true, true, true] rfl rfl (by kernel_rfl) (fun _ _ _ h => h) (Or.inl ⟨by rfl, ?_⟩) ?_ ?_
          rotate_left
          · intro w'
            go_simp
            with_reducible rfl
          rotate_left
          · simp only [Act.put, List.setIfInBounds_toArray, List.set_cons_zero, List.set_cons_succ, i64_w, i32_w]
            rfl
          refine done_ (by kernel_rfl) ?_
          go_wp2
          go_ret2
          exact ⟨by rw [HC.out]; rfl, HBW11.out⟩
        · have e0 : X0 = .nilIface := by rw [hx0]; unfold plainV; rw [if_neg h0, if_neg h1, if_neg h2]
          have hc : cmpV k0 s0 n0 b0 k0 s1 n1 b1 = (0, false) := by unfold cmpV; rw [if_pos rfl, if_neg h0, if_neg h1, if_neg h2]
          have HC := Lib.hid hc
          clear hx0 hx1 hc
          subst e0
          have HBW := Lib.hid hbw
          clear hbw
          go_wp2
          go_ret2
          exact ⟨by rw [HC.out]; rfl, HBW.out⟩
  · have hkb : (k0 != k1) = true := bne_iff_ne.mpr hk
    have hc : cmpV k0 s0 n0 b0 k1 s1 n1 b1 = (0, false) := by unfold cmpV; rw [if_neg hk]
    rw [hc]
    unfold val
    go_enter Try.func41, Try.ntmps41
    go_wp2
    go_ret2
    exact ⟨rfl, below_alloc (below_alloc (Below.refl _ _) _) _⟩
end Go.Proofs.Ytffggkhahambhaa.Span

namespace Go.Proofs.Ytffggkhahambhaa.PAll
open Go.RowKit Go.Proofs.YtffggkhahambhaaW.PrintWords Go.Proofs.YtffggkhahambhaaW.PrintLast Go.Proofs.YtffggkhahambhaaW.PrintMore Go.Proofs.Ytffggkhahambhaa.Math Go.Proofs.Ytffggkhahambhaa.Span
set_option linter.unusedVariables false
def span_Compare.f (a0_0 : Int) (a0_1 : ByteArray) (a0_2 : Int) (a0_3 : Bool) (a1_0 : Int) (a1_1 : ByteArray) (a1_2 : Int) (a1_3 : Bool) : Option (Int × Bool) := some (cmpV a0_0 a0_1 a0_2 a0_3 a1_0 a1_1 a1_2 a1_3)
theorem span_Compare.calls (a0_0 : Int) (a0_1 : ByteArray) (a0_2 : Int) (a0_3 : Bool) (a1_0 : Int) (a1_1 : ByteArray) (a1_2 : Int) (a1_3 : Bool) (r1 : Int) (r2 : Bool) (w : World) (h : span_Compare.f a0_0 a0_1 a0_2 a0_3 a1_0 a1_1 a1_2 a1_3 = some (r1, r2)) :
    Calls Try.prog 41 #[.agg #[.int .i64 a0_0, .string a0_1, .int .i64 a0_2, .bool a0_3], .agg #[.int .i64 a1_0, .string a1_1, .int .i64 a1_2, .bool a1_3]] w fun e w' => e = .returned (.tuple #[.int .i64 r1, .bool r2]) ∧ Below w.heap.size w w' := by
  have hc := compare_calls a0_0 a0_1 a0_2 a0_3 a1_0 a1_1 a1_2 a1_3 w
  rw [Option.some.inj h] at hc
  exact hc
end Go.Proofs.Ytffggkhahambhaa.PAll
