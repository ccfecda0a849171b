/- The text of a query without terms (chapter 24), by hand: expr.Text and the reference's. -/
import Derived.Test.YtcgpbcpgopmfcaaGreatDoorPAllx0
import Derived.Test.YtcgpbcpgopmfcaaGreatDoorBlocks
import Derived.Test.YtcgpbcpgopmfcaaGreatDoorConv
import Derived.Outline
namespace Go.Proofs.YtcgpbcpgopmfcaaGreatDoor.Tok
open Go.RowKit Go.Proofs.YtcgpbcpgopmfcaaGreatDoorW.PrintWords Go.Proofs.YtcgpbcpgopmfcaaGreatDoorW.PrintLast Go.Proofs.YtcgpbcpgopmfcaaGreatDoorW.PrintMore Go.Proofs.YtcgpbcpgopmfcaaGreatDoor.Math
set_option linter.unusedVariables false
set_option linter.unusedSimpArgs false

theorem info_str : (Tryz.prog.info? 9).map (fun i => (i.zero, i.size, i.bytes)) = some (some (.string ⟨#[]⟩), 1, 16) := by kernel_rfl
/-- The text of the query without terms. -/
def textQ (o : Int) : ByteArray := if o = 1 then ⟨#[98, 121, 58, 116, 105, 109, 101]⟩ else ⟨#[]⟩

set_option maxHeartbeats 1000000 in
theorem index_none (f : Value) (w : World) :
    Calls Tryz.prog 53 #[.slice none 0 0, f] w fun e w' => e = .returned (.int .i64 (-1)) ∧ w = w' := by
  go_enter Tryz.func53, Tryz.ntmps53
  go_wp2
  go_loopw [8] (fun i wr => i = .int .i64 0 ∧ w = wr) (fun i _ => (intOf i).toNat)
  case atStart => exact ⟨rfl, rfl⟩
  case round =>
    obtain ⟨rfl, rfl⟩ := hrel
    go_wp2
    go_ret
    exact ⟨rfl, rfl⟩

set_option maxHeartbeats 1000000 in
theorem may_calls (o : Int) (ho : o = 0 ∨ o = 1) (w : World) :
    Calls Tryz.prog 29 #[.agg #[.slice none 0 0, .int .i64 o]] w fun e w' => e = .returned (.bool true) ∧ Below w.heap.size w w' := by
  have h0 : 0 ≤ o := by omega
  have h2 : o ≤ 2 := by omega
  have d0 : decide (0 ≤ o) = true := decide_eq_true h0
  have d2 : decide (o ≤ 2) = true := decide_eq_true h2
  clear ho
  go_enter Tryz.func29, Tryz.ntmps29
  go_wp2_with (first | (go_at_call 53; refine (index_none _ _).mono ?_; rintro e w' ⟨rfl, rfl⟩) | go_in)
  go_outline
  go_ret
  exact ⟨rfl, (Below.refl _ _).alloc (Nat.le_refl _) _⟩

/-- The orders' words. -/
def ordersC : Array Value := #[.string ⟨#[98, 121, 58, 116, 114, 97, 99, 101]⟩, .string ⟨#[98, 121, 58, 116, 105, 109, 101]⟩, .string ⟨#[98, 121, 58, 100, 117, 114, 97, 116, 105, 111, 110]⟩]
theorem orders_calls (w : World) :
    Calls Tryz.prog 32 #[] w fun e w' => e = .returned (.slice (some ⟨w.heap.size, 0, none⟩) 3 3) ∧ w' = w.alloc (.cells ordersC 9) := by
  go_enter Tryz.func32, Tryz.ntmps32
  go_wp2
  go_ret
  exact ⟨rfl, rfl⟩

set_option maxHeartbeats 2000000 in
set_option maxRecDepth 100000 in
theorem text_calls (o : Int) (ho : o = 0 ∨ o = 1) (w : World) :
    Calls Tryz.prog 21 #[.agg #[.slice none 0 0, .int .i64 o]] w fun e w' => e = .returned (.string (textQ o)) ∧ Below w.heap.size w w' := by
  rcases ho with rfl | rfl
  · go_enter Tryz.func21, Tryz.ntmps21
    go_wp2_with fail
    refine (may_calls 0 (.inl rfl) _).mono ?_
    rintro e w1 ⟨rfl, hb⟩
    have kb := block_below (heap_alloc_new w (.cells #[.slice none 0 0, .int .i64 0] 28)) hb
    have HB := Lib.hid (below_step (below_alloc (Below.refl w.heap.size w) (.cells #[.slice none 0 0, .int .i64 0] 28)) hb)
    have c0 : w1.cell? ⟨w.heap.size, 0, none⟩ = some (.slice none 0 0) := (blk_cell kb 0).trans rfl
    have c1 : w1.cell? ⟨w.heap.size, 1, none⟩ = some (.int .i64 0) := (blk_cell kb 1).trans rfl
    clear hb kb
    go_wp2
    go_loopw [3, 5, 12] (fun v _ i wr => v = .slice none 0 0 ∧ i = .int .i64 0 ∧ w1 = wr) (fun _ _ i _ => (intOf i).toNat)
    case atStart => exact ⟨rfl, rfl, rfl⟩
    case round =>
      obtain ⟨rfl, rfl, rfl⟩ := hrel
      go_wp2
      go_ret
      exact ⟨rfl, HB.out⟩
  · go_enter Tryz.func21, Tryz.ntmps21
    go_wp2_with fail
    refine (may_calls 1 (.inr rfl) _).mono ?_
    rintro e w1 ⟨rfl, hb⟩
    have kb := block_below (heap_alloc_new w (.cells #[.slice none 0 0, .int .i64 1] 28)) hb
    have HB := Lib.hid (below_step (below_alloc (Below.refl w.heap.size w) (.cells #[.slice none 0 0, .int .i64 1] 28)) hb)
    have c0 : w1.cell? ⟨w.heap.size, 0, none⟩ = some (.slice none 0 0) := (blk_cell kb 0).trans rfl
    have c1 : w1.cell? ⟨w.heap.size, 1, none⟩ = some (.int .i64 1) := (blk_cell kb 1).trans rfl
    have KB := Lib.hid kb
    clear hb kb
    go_wp2
    go_loopw [3, 5, 12] (fun v _ i wr => v = .slice none 0 0 ∧ i = .int .i64 0 ∧ w1 = wr) (fun _ _ i _ => (intOf i).toNat)
    case atStart => exact ⟨rfl, rfl, rfl⟩
    case round =>
      obtain ⟨rfl, rfl, rfl⟩ := hrel
      go_wp2
      clear c0 c1
      have k1 : w1.drew.cell? ⟨w.heap.size, 1, none⟩ = some (.int .i64 1) := (blk_cell (blk_drew KB.out) 1).trans rfl
      have hbd := HB.out.drew
      have kbd := blk_drew KB.out
      refine start_ (n := 9) (S := fun w' => w'.cell? ⟨w.heap.size, 1, none⟩ = some (.int .i64 1)) (ds := []) #[false, false, false, false, false, false, false, false, false] (by kernel_rfl) rfl rfl (k1) (fun hHeld => ?_)
      generalize w1.drew = w5 at k1 hbd kbd hHeld ⊢
      have HB5 := Lib.hid hbd
      have KB5 := Lib.hid kbd
      clear k1 hbd kbd
      refine pure_ (i := 0) (N := some 35) (v := ?_) (a' := ?_) #[true, false, false, false, false, false, false, false, false] rfl rfl (by kernel_rfl) (fun _ _ _ h => h) (Or.inl ⟨by rfl, ?_⟩) ?_ ?_
      rotate_left
      · intro w'
        go_simp
        with_reducible rfl
      rotate_left
      · simp only [Act.put, List.setIfInBounds_toArray, List.set_cons_zero, List.set_cons_succ, i64_w, i32_w]
        rfl
      refine pure_ (i := 2) (N := some 37) (v := ?_) (a' := ?_) #[true, false, true, false, false, false, false, false, false] rfl rfl (by kernel_rfl) (fun _ _ _ h => h) (Or.inl ⟨by rfl, ?_⟩) ?_ ?_
      rotate_left
      · intro w'
        go_simp
        with_reducible rfl
      rotate_left
      · simp only [Act.put, List.setIfInBounds_toArray, List.set_cons_zero, List.set_cons_succ, i64_w, i32_w]
        rfl
      refine take_ (i := 3) (N := some 38) (v := ?_) (a' := ?_) #[true, false, true, true, false, false, false, false, false] rfl rfl (by kernel_rfl) (fun _ _ _ h => h) (Or.inl ⟨by rfl, ?_⟩) hHeld ?_ ?_
      rotate_left
      · intro w' s0
        go_simp
        with_reducible rfl
      rotate_left
      · simp only [Act.put, List.setIfInBounds_toArray, List.set_cons_zero, List.set_cons_succ, i64_w, i32_w]
        rfl
      refine one_ (i := 1) (N := some 36) #[true, true, true, true, false, false, false, false, false] rfl rfl (by kernel_rfl) (by decide) (fun K hK => ?_)
      refine goes_ Tryz.func32 (by kernel_rfl) rfl #[] (by rfl) rfl rfl (by simp only [List.map_toArray, List.map_nil]) ?_
      with_reducible refine (orders_calls w5).mono ?_
      rintro e w6 ⟨rfl, hw6⟩
      refine ⟨_, rfl, ?_⟩
      have hb6 : Below w5.heap.size w5 w6 := by rw [hw6]; exact below_alloc (Below.refl _ _) _
      have ho6 : w6.heap[w5.heap.size]? = some (.cells ordersC 9 (0, 0)) := by rw [hw6]; exact heap_alloc_new w5 _
      have HO6 := Lib.hid ho6
      have HB6 := Lib.hid (below_step HB5.out hb6)
      have hk6 := block_below KB5.out hb6
      have HK6 := Lib.hid hk6
      have y1 : w6.cell? ⟨w5.heap.size, 1, none⟩ = some (.string ⟨#[98, 121, 58, 116, 105, 109, 101]⟩) := (blk_cell ho6 1).trans rfl
      clear hw6 ho6 hb6 hk6
      refine hK.out _ _ ((blk_cell HK6.out 1).trans rfl) (fun hHeld => ?_)
      clear hK K
      refine norm_ (a' := ?_) ?_ ?_
      rotate_left
      · show Act.put _ (some 36) _ = _
        simp only [Act.put, List.setIfInBounds_toArray, List.set_cons_zero, List.set_cons_succ, i64_w, i32_w]
        rfl
      refine pure_ (i := 4) (N := some 39) (v := ?_) (a' := ?_) #[true, true, true, true, true, false, false, false, false] rfl rfl (by kernel_rfl) (fun _ _ _ h => h) (Or.inl ⟨by rfl, ?_⟩) ?_ ?_
      rotate_left
      · intro w'
        go_simp
        with_reducible rfl
      rotate_left
      · simp only [Act.put, List.setIfInBounds_toArray, List.set_cons_zero, List.set_cons_succ, i64_w, i32_w]
        rfl
      refine one_ (i := 5) (N := some 40) #[true, true, true, true, true, true, false, false, false] rfl rfl (by kernel_rfl) (by decide) (fun K hK => ?_)
      refine value_ (w1 := ?_) (v := ?_) (by rfl) rfl ?_ ?_
      rotate_left 2
      · go_simp
        constructor
        · rfl
        · rfl
      refine hK.out _ _ ((blk_cell HK6.out 1).trans rfl) (fun hHeld => ?_)
      clear hK K
      refine norm_ (a' := ?_) ?_ ?_
      rotate_left
      · show Act.put _ (some 40) _ = _
        simp only [Act.put, List.setIfInBounds_toArray, List.set_cons_zero, List.set_cons_succ, i64_w, i32_w]
        rfl
      refine one_ (i := 6) (N := some 41) #[true, true, true, true, true, true, true, false, false] rfl rfl (by kernel_rfl) (by decide) (fun K hK => ?_)
      refine Kd.R_lit_step Kd.string (w0 := w6) w6.heap.size 9 (by rfl) (N := 41) (by rfl) (xs := [(⟨#[98, 121, 58, 116, 105, 109, 101]⟩ : ByteArray)]) (inner := [.string ⟨#[98, 121, 58, 116, 105, 109, 101]⟩]) (ok := fun _ => True) (okp := fun _ => True) (by first | (go_simp; done) | (go_simp; rfl)) (Reps.one (show Kd.M Kd.string _ _ _ (⟨#[98, 121, 58, 116, 105, 109, 101]⟩ : ByteArray) [.string ⟨#[98, 121, 58, 116, 105, 109, 101]⟩] from rfl) (Reps.none _ _)) (fun _ hk => hk) trivial (Below.refl _ _) (Nat.le_refl _) (by simp) ?_
      intro v7 w7 ho hb hg_ hnew_
      obtain ⟨A7, c7, rfl⟩ := Kd.R_slice ho
      have HO7 := Lib.hid (Kd.R_reads' ho).2.2
      have HB7 := Lib.hid (below_step HB6.out hb)
      have HK7 := Lib.hid (block_below HK6.out hb)
      clear ho hb hg_ hnew_ y1
      refine hK.out _ _ ((blk_cell HK7.out 1).trans rfl) (fun hHeld => ?_)
      clear hK K
      refine norm_ (a' := ?_) ?_ ?_
      rotate_left
      · show Act.put _ (some 41) _ = _
        simp only [Act.put, List.setIfInBounds_toArray, List.set_cons_zero, List.set_cons_succ, i64_w, i32_w]
        rfl
      refine one_ (i := 7) (N := some 42) #[true, true, true, true, true, true, true, true, false] rfl rfl (by kernel_rfl) (by decide) (fun K hK => ?_)
      refine Kd.R_append_rows_step Kd.string (w0 := w7) w7.heap.size (by rfl) (.tmp 35) (.tmp 41) 47 9 (.string ⟨#[]⟩) 16 (by rfl) Tryz.underlying47 info_str rfl (by decide) (by omega) _ ([] : List ByteArray) [(⟨#[98, 121, 58, 116, 105, 109, 101]⟩ : ByteArray)] A7 _ c7 (fun _ => True) (fun _ => False) (by rfl) (by rfl) (Kd.R_nil _ _ _ _ _) HO7.out (fun _ _ h => h) (fun _ h => h.elim) (fun _ _ => trivial) (Below.refl _ _) (Nat.le_refl _) (by simp) ?_
      intro v8 w8 ho hb hg_ hnew_
      obtain ⟨A8, c8, rfl⟩ := Kd.R_slice ho
      have HO8 := Lib.hid (Kd.R_reads' ho).2.2
      have HB8 := Lib.hid (below_step HB7.out hb)
      have HK8 := Lib.hid (block_below HK7.out hb)
      clear ho hb hg_ hnew_
      refine hK.out _ _ ((blk_cell HK8.out 1).trans rfl) (fun hHeld => ?_)
      clear hK K
      refine norm_ (a' := ?_) ?_ ?_
      rotate_left
      · show Act.put _ (some 42) _ = _
        simp only [Act.put, List.setIfInBounds_toArray, List.set_cons_zero, List.set_cons_succ, i64_w, i32_w]
        rfl
      refine pure_ (i := 8) (N := some 3) (v := ?_) (a' := ?_) #[true, true, true, true, true, true, true, true, true] rfl rfl (by kernel_rfl) (fun _ _ _ h => h) (Or.inl ⟨by rfl, ?_⟩) ?_ ?_
      rotate_left
      · intro w'
        go_simp
        with_reducible rfl
      rotate_left
      · simp only [Act.put, List.setIfInBounds_toArray, List.set_cons_zero, List.set_cons_succ, i64_w, i32_w]
        rfl
      refine done_ (by kernel_rfl) ?_
      obtain ⟨ad, rfl, hx⟩ := Kd.at_string HO8.out (0 : Int) (by omega) (by simp)
      change w8.cell? (ad.add 0) = some (.string ⟨#[98, 121, 58, 116, 105, 109, 101]⟩) at hx
      have e0 : ad.add 0 = ad := by simp [Addr.add]
      rw [e0] at hx
      go_wp2
      go_ret
      exact ⟨rfl, HB8.out⟩

end Go.Proofs.YtcgpbcpgopmfcaaGreatDoor.Tok
