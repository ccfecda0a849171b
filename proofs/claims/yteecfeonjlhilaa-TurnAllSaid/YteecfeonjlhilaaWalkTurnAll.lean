/- TurnAll: all who want, each once or more often, are the first once, in the order in which they first wanted, as each leaves in turn. The law's guard: 100 of them are gone through. -/
import Derived.Test.YteecfeonjlhilaaTurnAwake
namespace Go.Proofs.Yteecfeonjlhilaa.Walk
open Go.RowKit Go.Proofs.YteecfeonjlhilaaW.PrintWords Go.Proofs.YteecfeonjlhilaaW.PrintLast Go.Proofs.YteecfeonjlhilaaW.PrintMore Go.Proofs.Yteecfeonjlhilaa.Math Go.Proofs.Yteecfeonjlhilaa.Q
set_option linter.unusedVariables false
set_option linter.unusedSimpArgs false

theorem row_cell {w : World} {e base : Nat} {ok : Nat → Prop} {v : Value} {xs : List Int} (h : Kd.R (Kd.int .i64) e w base ok v xs) (hp : 0 < xs.length) :
    ∃ g c, v = .slice (some ⟨g, 0, none⟩) xs.length c ∧ base ≤ g ∧ ∀ j, j < xs.length → w.cell? ⟨g, j, none⟩ = some (.int .i64 (rd xs (j : Int))) := by
  obtain ⟨A, c, rfl, hle, hC⟩ := Kd.R_reads h
  obtain ⟨ad, rfl, _⟩ := Kd.at_int hC 0 (by omega) (by omega)
  obtain ⟨g, rfl⟩ := Kd.R_head h
  refine ⟨g, c, rfl, Kd.R_base h g rfl, fun j hj => ?_⟩
  obtain ⟨ad', hA, hc⟩ := Kd.at_int hC (j : Int) (by omega) (by omega)
  injection hA with hA
  subst hA
  rw [Int.toNat_natCast, add_plain] at hc
  exact hc
theorem row_nil {w : World} {e base : Nat} {ok : Nat → Prop} {v : Value} {xs : List Int} (h : Kd.R (Kd.int .i64) e w base ok v xs) : ∃ A c, v = .slice A xs.length c := Kd.R_slice h
theorem arg_cell {W : World} {A : Option Addr} {l : List Int} (hc : Kd.C (Kd.int .i64) W A l.length l) {k : Nat} (hk : k < l.length) :
    ∃ ad, A = some ad ∧ ∀ w', Below W.heap.size W w' → w'.cell? (ad.add k) = some (.int .i64 (rd l (k : Int))) := by
  obtain ⟨ad, rfl, _⟩ := Kd.at_int hc (k : Int) (by omega) (by omega)
  refine ⟨ad, rfl, fun w' hb => ?_⟩
  obtain ⟨ad', hA', h'⟩ := Kd.at_int (Kd.C_below hc hb) (k : Int) (by omega) (by omega)
  injection hA' with hA'
  subst hA'
  rw [Int.toNat_natCast] at h'
  exact h'

theorem fresh_step {os : List Int} {x : Int} {i : Nat} (h : i < os.length) : decide (x ∉ os.take (i + 1)) = (decide (x ∉ os.take i) && (rd os (i : Int) != x)) := by
  rw [rd_take_succ h]
  generalize os.take i = t
  generalize rd os (i : Int) = y
  by_cases h1 : x ∈ t
  · have : x ∈ t ++ [y] := List.mem_append_left _ h1
    rw [decide_eq_false (fun h => h this), decide_eq_false (fun h => h h1)]; rfl
  · by_cases h2 : y = x
    · subst h2
      rw [decide_eq_false (fun h => h (List.mem_append_right _ (List.mem_singleton.2 rfl)))]
      simp
    · have : x ∉ t ++ [y] := by
        rw [List.mem_append, List.mem_singleton]
        rintro (h | h)
        · exact h1 h
        · exact h2 h.symm
      rw [decide_eq_true this, decide_eq_true h1, bne_iff_ne.2 h2]; rfl

/-- The queue's rows are none of order's. -/
def okv (p : Nat) (v : Value) (k : Nat) : Prop := p < k ∧ some k ≠ v.ownBlock
/-- The queue and the row 'order' hold the same numbers. -/
structure ASt (W w : World) (p : Nat) (v : Value) (xs : List Int) : Prop where
  q : QSt 41 W w (okv p v) p xs
  r : Kd.R (Kd.int .i64) 3 w (p + 1) (fun _ => True) v xs

theorem ASt.drew {W w : World} {p : Nat} {v : Value} {xs : List Int} (h : ASt W w p v xs) (n : Nat) : ASt W (w.drewN n) p v xs :=
  ⟨h.q.next (pw_below_drewN (Below.refl _ _) n), Kd.R_below h.r (pw_below_drewN (Below.refl _ _) n)⟩
/-- The queue was turned. -/
theorem ASt.turn {W w w1 : World} {p : Nat} {v : Value} {xs ys : List Int} (h : ASt W w p v xs) (hq : QSt 41 W w1 (okv p v) p ys) (hg : w.grownBy w1 (some p)) :
    QSt 41 W w1 (okv p v) p ys ∧ Kd.R (Kd.int .i64) 3 w1 (p + 1) (fun _ => True) v xs :=
  ⟨hq, Kd.R_grown1 h.r rfl hg (fun he => by have := Kd.R_base h.r p he.symm; omega)⟩
theorem okv_old {p : Nat} {v v1 : Value} {N : Nat} (hat : v1.ownBlock = v.ownBlock ∨ ∃ b, v1.ownBlock = some b ∧ N ≤ b) : ∀ k, okv p v k → k < N → okv p v1 k := by
  rintro k ⟨h1, h2⟩ h3
  refine ⟨h1, ?_⟩
  rcases hat with h | ⟨b, h, hb⟩
  · rw [h]; exact h2
  · rw [h]; intro he; injection he with he; omega

theorem ASt.push {W w3 w4 : World} {p : Nat} {v v1 : Value} {os ys : List Int} (h : ASt W w3 p v os) (ho : Kd.R (Kd.int .i64) 3 w4 (p + 1) (fun _ => True) v1 ys) (hg : w3.grownBy w4 v.ownBlock)
    (hat : v1.ownBlock = v.ownBlock ∨ ∃ b, v1.ownBlock = some b ∧ w3.heap.size ≤ b) : QSt 41 W w4 (okv p v1) p os := by
  have hrow : ∀ k, v.ownBlock = some k → p + 1 ≤ k := Kd.R_base h.r
  have h3 : At 41 w3 (fun k => okv p v k ∧ k < w3.heap.size) p os := At_ok h.q.at_ (fun k a b => ⟨a, b⟩)
  have h4 := At_grown h3 hg (fun he => by have := hrow p he.symm; omega) (fun k hk => hk.1.2)
  refine ⟨At_ok h4 (fun k hk _ => okv_old hat k hk.1 hk.2), h.q.below.grown hg h.q.below.size (fun k hk => by have := hrow k hk; have := h.q.p0; omega), fun k hk => ⟨(h.q.size k (Nat.le_trans hg.size hk)).1, fun he => ?_⟩, fun hk => absurd hk.1 (Nat.lt_irrefl _), h.q.p0⟩
  obtain ⟨inner, hown⟩ := Kd.R_own ho
  have := own_lt hown k he.symm
  omega

set_option maxHeartbeats 8000000 in
set_option maxRecDepth 20000 in
theorem TurnAll (W : World) (A : Option Addr) (c : Nat) (l : List Int) (hl : l.length ≤ c) (hc : Kd.C (Kd.int .i64) W A l.length l)
    (hg : (∀ x ∈ l, (Lit.int .i64 x).wf = true) ∧ l.length * 8 ≤ 140737488351232) :
    Calls Try.prog 5 #[.slice A l.length c] W fun e w' => e = .returned (.bool true) ∧ Below W.heap.size W w' := by
  have hn := hc.2.1
  have HC := Lib.hid hc
  clear hg hl hc
  go_enter Try.func5, Try.ntmps5
  go_wp2_with fail
  refine (awake_calls _).mono ?_
  rintro e w1 ⟨rfl, hb⟩
  go_wp2_with fail
  refine (new_q W w1 hb).mono ?_
  rintro e w2 ⟨rfl, hq, hb2⟩
  have hs : ASt W w2 w1.heap.size (.slice none 0 0) [] := ⟨⟨At_ok hq.at_ (fun k h _ => ⟨h, by simp [Value.ownBlock]⟩), hq.below, fun k hk => ⟨hq.size k hk, by simp [Value.ownBlock]⟩, fun h => hq.pb h.1, hq.p0⟩, Kd.R_nil _ _ _ _ _⟩
  have HS0 := Lib.hid hs
  generalize hp : w1.heap.size = p at HS0 ⊢
  clear hb hq hs hb2 hp w1
  go_wp2
  go_loopw [4, 5] (fun v i wr => ∃ (k : Nat), k ≤ l.length ∧ k ≤ 100 ∧ i = .int .i64 k ∧ Hid (ASt W wr p v (once (l.take k)))) (fun _ i _ => 100 - (intOf i).toNat)
  case atStart => exact ⟨0, by omega, by omega, rfl, HS0⟩
  case round =>
    clear HS0
    obtain ⟨k, hk, hk100, rfl, HS⟩ := hrel
    have hlen : (once (l.take k)).length ≤ k := by have := once_len (l.take k); have := List.length_take_le k l; omega
    by_cases hlt : k < l.length ∧ k < 100
    · obtain ⟨hlt, hlt100⟩ := hlt
      obtain ⟨ad, rfl, hcellA⟩ := arg_cell HC.out hlt
      have HCell := Lib.hid hcellA
      have hcell := hcellA wr HS.out.q.below
      have hot := once_take hlt
      have q : (k : Int) < (l.length : Int) := by omega
      have hdk : decide ((k : Int) < 100) = true := decide_eq_true (by omega)
      clear hcellA
      generalize rd l (k : Int) = x at hot HCell hcell
      have HOT := Lib.hid hot
      clear hot
      generalize hos : once (l.take k) = os at HS HOT hlen
      clear hos
      obtain ⟨A4, c4, hv4⟩ := row_nil HS.out.r
      subst hv4
      go_wp2
      go_loopw [6, 7] (fun f j wr2 => ∃ (i n : Nat), i ≤ os.length ∧ j = .int .i64 i ∧ f = .bool (decide (x ∉ os.take i)) ∧ wr2 = wr.drewN n) (fun _ j _ => os.length - (intOf j).toNat)
      case atStart => exact ⟨0, 0, by omega, rfl, by simp, rfl⟩
      case round =>
        obtain ⟨i, n, hi, rfl, rfl, rfl⟩ := hrel
        by_cases hil : i < os.length
        · obtain ⟨g, c5, hv5, hg5, hrow⟩ := row_cell HS.out.r (by omega)
          injection hv5 with hv5 _ hv6
          subst hv5 hv6
          have hcr := hrow i hil
          clear hrow
          have q5 : (i : Int) < (os.length : Int) := by omega
          have HDec := Lib.hid (fresh_step (x := x) hil)
          generalize rd os (i : Int) = y at hcr HDec
          cases hf : decide (x ∉ os.take i) with
          | false =>
            rw [hf, Bool.false_and] at HDec
            go_wp2
            go_quiet (fail)
            go_wp2
            go_roundw
            case rel => exact ⟨i + 1, _, by omega, by go_num, by rw [HDec.out], rfl⟩
            case measure => simp [intOf]; omega
          | true =>
            rw [hf, Bool.true_and] at HDec
            by_cases hy : y = x
            · have hb1 : (y != x) = false := bne_eq_false_iff_eq.2 hy
              have hb2 : (y == x) = true := beq_iff_eq.2 hy
              rw [hb1] at HDec
              clear hy
              go_wp2
              go_quiet (fail)
              go_wp2
              go_roundw
              case rel => exact ⟨i + 1, _, by omega, by go_num, by rw [HDec.out], rfl⟩
              case measure => simp [intOf]; omega
            · have hb1 : (y != x) = true := bne_iff_ne.2 hy
              have hb2 : (y == x) = false := beq_eq_false_iff_ne.2 hy
              rw [hb1] at HDec
              clear hy
              go_wp2
              go_quiet (fail)
              go_wp2
              go_roundw
              case rel => exact ⟨i + 1, _, by omega, by go_num, by rw [HDec.out], rfl⟩
              case measure => simp [intOf]; omega
        · have hio : i = os.length := by omega
          subst hio
          have htake : os.take os.length = os := List.take_length
          rw [htake]
          have HSn := Lib.hid (HS.out.drew n)
          have HCw := Lib.hid (HCell.out (wr.drewN n) HSn.out.q.below)
          clear htake hil hi
          by_cases hx : x ∈ os
          · have hfr : decide (x ∉ os) = false := decide_eq_false (fun h => h hx)
            rw [hfr]
            have hw : want os x = os := by unfold want; rw [if_pos hx]
            have HY := Lib.hid (show want os x = os ∧ 0 < os.length from ⟨hw, by have := want_pos os x; rwa [hw] at this⟩)
            have HQ := Lib.hid HSn.out.q
            have HR := Lib.hid HSn.out.r
            clear hx hfr hw
            go_wp2
            obtain ⟨g, c6, hv6, hg6, hrow6⟩ := row_cell HR.out HY.out.2
            injection hv6 with hv6 _ hv7
            subst hv6 hv7
            have hh0 := hrow6 0 HY.out.2
            have hh : (wr.drewN n).drew.cell? ⟨g, 0, none⟩ = some (.int .i64 (rd os 0)) := hh0
            have hcl : (wr.drewN n).drew.cell? (ad.add k) = some (.int .i64 x) := HCell.out _ (below_drew1 HQ.out.below)
            have hbse : (rd os 0 == x) = (rd (want os x) 0 == x) := by rw [HY.out.1]
            have HBse := Lib.hid hbse
            have hqd : QSt 41 W (wr.drewN n).drew (okv p (.slice (some ⟨g, 0, none⟩) os.length c4)) p os := HQ.out.next ((Below.refl _ _).drew)
            have hrd : Kd.R (Kd.int .i64) 3 (wr.drewN n).drew (p + 1) (fun _ => True) (.slice (some ⟨g, 0, none⟩) os.length c4) os := Kd.R_below HR.out ((Below.refl _ _).drew)
            have q10 := HY.out.2
            have q9 : (0 : Int) < ((os).length : Int) := by have := HY.out.2; omega
            clear hrow6 hh0 hbse HCw HSn
            generalize rd os 0 = y0 at hh HBse
            refine start_ (n := 15) (S := fun w' => w'.cell? (ad.add k) = some (.int .i64 x) ∧ w'.cell? ⟨g, 0, none⟩ = some (.int .i64 y0)) (ds := []) #[false, false, false, false, false, false, false, false, false, false, false, false, false, false, false] (by kernel_rfl) rfl rfl ⟨hcl, hh⟩ (fun hHeld => ?_)
            generalize (wr.drewN n).drew = w5 at hh hcl hqd hrd hHeld ⊢
            have HQ5 := Lib.hid hqd
            have HR5 := Lib.hid hrd
            have HH5 := Lib.hid hh
            clear hqd hrd hh hcl
            refine pure_ (i := 0) (N := some 52) (v := ?_) (a' := ?_) #[true, false, false, false, false, false, false, false, false, false, false, false, false, false, false] rfl rfl (by kernel_rfl) (fun _ _ _ h => h) (Or.inl ⟨by rfl, ?_⟩) ?_ ?_
            rotate_left
            · intro w'
              go_simp
              with_reducible rfl
            rotate_left
            · simp only [Act.put, List.setIfInBounds_toArray, List.set_cons_zero, List.set_cons_succ, i64_w, i32_w]
              rfl
            refine pure_ (i := 1) (N := some 53) (v := ?_) (a' := ?_) #[true, true, false, false, false, false, false, false, false, false, false, false, false, false, false] rfl rfl (by kernel_rfl) (fun _ _ _ h => h) (Or.inl ⟨by rfl, ?_⟩) ?_ ?_
            rotate_left
            · intro w'
              go_simp
              with_reducible rfl
            rotate_left
            · simp only [Act.put, List.setIfInBounds_toArray, List.set_cons_zero, List.set_cons_succ, i64_w, i32_w]
              rfl
            refine pure_ (i := 2) (N := some 54) (v := ?_) (a' := ?_) #[true, true, true, false, false, false, false, false, false, false, false, false, false, false, false] rfl rfl (by kernel_rfl) (fun _ _ _ h => h) (Or.inl ⟨by rfl, ?_⟩) ?_ ?_
            rotate_left
            · intro w'
              go_simp
              with_reducible rfl
            rotate_left
            · simp only [Act.put, List.setIfInBounds_toArray, List.set_cons_zero, List.set_cons_succ, i64_w, i32_w]
              rfl
            refine pure_ (i := 3) (N := some 55) (v := ?_) (a' := ?_) #[true, true, true, true, false, false, false, false, false, false, false, false, false, false, false] rfl rfl (by kernel_rfl) (fun _ _ _ h => h) (Or.inl ⟨by rfl, ?_⟩) ?_ ?_
            rotate_left
            · intro w'
              go_simp
              with_reducible rfl
            rotate_left
            · simp only [Act.put, List.setIfInBounds_toArray, List.set_cons_zero, List.set_cons_succ, i64_w, i32_w]
              rfl
            refine pure_ (i := 6) (N := some 58) (v := ?_) (a' := ?_) #[true, true, true, true, false, false, true, false, false, false, false, false, false, false, false] rfl rfl (by kernel_rfl) (fun _ _ _ h => h) (Or.inl ⟨by rfl, ?_⟩) ?_ ?_
            rotate_left
            · intro w'
              go_simp
              with_reducible rfl
            rotate_left
            · simp only [Act.put, List.setIfInBounds_toArray, List.set_cons_zero, List.set_cons_succ, i64_w, i32_w]
              rfl
            refine pure_ (i := 7) (N := some 59) (v := ?_) (a' := ?_) #[true, true, true, true, false, false, true, true, false, false, false, false, false, false, false] rfl rfl (by kernel_rfl) (fun _ _ _ h => h) (Or.inl ⟨by rfl, ?_⟩) ?_ ?_
            rotate_left
            · intro w'
              go_simp
              with_reducible rfl
            rotate_left
            · simp only [Act.put, List.setIfInBounds_toArray, List.set_cons_zero, List.set_cons_succ, i64_w, i32_w]
              rfl
            refine pure_ (i := 9) (N := some 61) (v := ?_) (a' := ?_) #[true, true, true, true, false, false, true, true, false, true, false, false, false, false, false] rfl rfl (by kernel_rfl) (fun _ _ _ h => h) (Or.inl ⟨by rfl, ?_⟩) ?_ ?_
            rotate_left
            · intro w'
              go_simp
              with_reducible rfl
            rotate_left
            · simp only [Act.put, List.setIfInBounds_toArray, List.set_cons_zero, List.set_cons_succ, i64_w, i32_w]
              rfl
            refine pure_ (i := 10) (N := some 62) (v := ?_) (a' := ?_) #[true, true, true, true, false, false, true, true, false, true, true, false, false, false, false] rfl rfl (by kernel_rfl) (fun _ _ _ h => h) (Or.inl ⟨by rfl, ?_⟩) ?_ ?_
            rotate_left
            · intro w'
              go_simp
              with_reducible rfl
            rotate_left
            · simp only [Act.put, List.setIfInBounds_toArray, List.set_cons_zero, List.set_cons_succ, i64_w, i32_w]
              rfl
            refine pure_ (i := 11) (N := some 63) (v := ?_) (a' := ?_) #[true, true, true, true, false, false, true, true, false, true, true, true, false, false, false] rfl rfl (by kernel_rfl) (fun _ _ _ h => h) (Or.inl ⟨by rfl, ?_⟩) ?_ ?_
            rotate_left
            · intro w'
              go_simp
              with_reducible rfl
            rotate_left
            · simp only [Act.put, List.setIfInBounds_toArray, List.set_cons_zero, List.set_cons_succ, i64_w, i32_w]
              rfl
            refine take_ (i := 4) (N := some 56) (v := ?_) (a' := ?_) #[true, true, true, true, true, false, true, true, false, true, true, true, false, false, false] rfl rfl (by kernel_rfl) (fun _ _ _ h => h) (Or.inl ⟨by rfl, ?_⟩) hHeld ?_ ?_
            rotate_left
            · rintro w' ⟨s0, s1⟩
              go_simp
              with_reducible rfl
            rotate_left
            · simp only [Act.put, List.setIfInBounds_toArray, List.set_cons_zero, List.set_cons_succ, i64_w, i32_w]
              rfl
            refine take_ (i := 8) (N := some 60) (v := ?_) (a' := ?_) #[true, true, true, true, true, false, true, true, true, true, true, true, false, false, false] rfl rfl (by kernel_rfl) (fun _ _ _ h => h) (Or.inl ⟨by rfl, ?_⟩) hHeld ?_ ?_
            rotate_left
            · rintro w' ⟨s0, s1⟩
              go_simp
              with_reducible rfl
            rotate_left
            · simp only [Act.put, List.setIfInBounds_toArray, List.set_cons_zero, List.set_cons_succ, i64_w, i32_w]
              rfl
            refine take_ (i := 12) (N := some 64) (v := ?_) (a' := ?_) #[true, true, true, true, true, false, true, true, true, true, true, true, true, false, false] rfl rfl (by kernel_rfl) (fun _ _ _ h => h) (Or.inl ⟨by rfl, ?_⟩) hHeld ?_ ?_
            rotate_left
            · rintro w' ⟨s0, s1⟩
              go_simp
              with_reducible rfl
            rotate_left
            · simp only [Act.put, List.setIfInBounds_toArray, List.set_cons_zero, List.set_cons_succ, i64_w, i32_w]
              rfl
            refine pure_ (i := 13) (N := some 65) (v := ?_) (a' := ?_) #[true, true, true, true, true, false, true, true, true, true, true, true, true, true, false] rfl rfl (by kernel_rfl) (fun _ _ _ h => h) (Or.inl ⟨by rfl, ?_⟩) ?_ ?_
            rotate_left
            · intro w'
              go_simp
              with_reducible rfl
            rotate_left
            · simp only [Act.put, List.setIfInBounds_toArray, List.set_cons_zero, List.set_cons_succ, i64_w, i32_w]
              rfl
            refine one_ (i := 5) (N := some 57) #[true, true, true, true, true, true, true, true, true, true, true, true, true, true, false] rfl rfl (by kernel_rfl) (by decide) (fun K hK => ?_)
            refine goes_ Try.func10 (by kernel_rfl) rfl #[.pointer (some ⟨p, 0, none⟩), .int .i64 x] (by rfl) rfl rfl (by simp only [List.map_toArray, List.map_cons, List.map_nil]; rfl) ?_
            with_reducible refine (want_q x HQ5.out (by omega)).mono ?_
            rintro e w6 ⟨rfl, hq6, hg6'⟩
            refine ⟨_, rfl, ?_⟩
            rw [HY.out.1] at hq6
            rw [← HBse.out]
            have hh6 : w6.cell? ⟨g, 0, none⟩ = some (.int .i64 y0) := cell_grown hg6' HH5.out (by intro he; injection he with he; simp at he; omega)
            have hcl6 := HCell.out w6 hq6.below
            have HR6 := Lib.hid (Kd.R_grown1 HR5.out rfl hg6' (fun he => by have := Kd.R_base HR5.out p he.symm; omega))
            have HQ6 := Lib.hid hq6
            clear hq6 hg6'
            refine hK.out _ _ ⟨hcl6, hh6⟩ (fun hHeld => ?_)
            clear hK K
            refine norm_ (a' := ?_) ?_ ?_
            rotate_left
            · show Act.put _ (some 57) _ = _
              simp only [Act.put, List.setIfInBounds_toArray, List.set_cons_zero, List.set_cons_succ, i64_w, i32_w]
              rfl
            refine pure_ (i := 14) (N := some 66) (v := ?_) (a' := ?_) #[true, true, true, true, true, true, true, true, true, true, true, true, true, true, true] rfl rfl (by kernel_rfl) (fun _ _ _ h => h) (Or.inl ⟨by rfl, ?_⟩) ?_ ?_
            rotate_left
            · intro w'
              go_simp
              with_reducible rfl
            rotate_left
            · simp only [Act.put, List.setIfInBounds_toArray, List.set_cons_zero, List.set_cons_succ, i64_w, i32_w]
              rfl
            refine done_ (by kernel_rfl) ?_
            go_wp2
            go_roundw
            case rel => exact ⟨k + 1, by omega, by omega, by go_num, Lib.hid (by rw [HOT.out, HY.out.1]; exact ⟨HQ6.out, HR6.out⟩)⟩
            case measure => simp [intOf]; omega
          · have hfr : decide (x ∉ os) = true := decide_eq_true hx
            rw [hfr]
            have hw : want os x = os ++ [x] := by unfold want; rw [if_neg hx]
            have HY := Lib.hid (show want os x = os ++ [x] ∧ 0 < (os ++ [x]).length from ⟨hw, by simp⟩)
            have hcw := HCw.out
            have HAS := HSn
            clear hx hfr hw
            go_wp2_with (first
              | ((with_reducible refine gate_dst (N := 50) rfl ?_); refine Kd.R_lit (Kd.int .i64) (w0 := wr.drewN n) (wr.drewN n).heap.size 3 ?hg2 (N := 50) ?hd2 (xs := ([x] : List Int)) (inner := [.int .i64 x]) (ok := fun _ => True) (okp := fun _ => True) ?hr2 ?hp2 (fun _ hk => hk) trivial (Below.refl _ _) (Nat.le_refl _) (by simp) ?_; (case hd2 => rfl); (case hg2 => rfl); (case hr2 => first | (go_simp; done) | (go_simp; rfl)); (case hp2 => exact (Reps.one (show Kd.M (Kd.int .i64) _ _ _ x [.int .i64 x] from rfl) (Reps.none _ _))); intro v3 w3 ho hb hg_ hnew_; clear hg_ hnew_; obtain ⟨A3, c3, rfl⟩ := Kd.R_slice ho; have HO3 := Lib.hid (Kd.R_reads' ho).2.2; have HB3 := Lib.hid hb; have HAS3 := Lib.hid (show ASt W w3 p (.slice A4 os.length c4) os from ⟨HSn.out.q.next hb, Kd.R_below HSn.out.r hb⟩); have HPS := Lib.hid (show p + 1 ≤ w3.heap.size by obtain ⟨_, _, hblk, _⟩ := HAS3.out.q.at_; exact blk_lt hblk); clear ho hb)
              | ((with_reducible refine gate_builtin (b := .append) (xs := #[.tmp 45, .tmp 50]) rfl ?_); at_builtin; refine Kd.R_append_rows (Kd.int .i64) (w0 := w3) (p + 1) rfl (.tmp 45) (.tmp 50) 27 3 (.int .i64 0) 8 rfl Try.underlying27 info_int rfl (by decide) (by omega) (.slice A4 os.length c4) os [x] A3 _ c3 (fun _ => True) (fun _ => False) rfl rfl HAS3.out.r HO3.out (fun _ _ h => h) (fun _ h => h.elim) (fun _ _ => trivial) (Below.refl _ _) HPS.out (by simp; omega) ?_; intro v4 w4 ho hb hg_ hat_; obtain ⟨A14, c14, rfl⟩ := Kd.R_slice ho; have HR := Lib.hid ho; have HQ := Lib.hid (HAS3.out.push ho hg_ hat_); clear ho hb hg_ hat_))
            have hlo : (os ++ [x]).length = os.length + 1 := by simp
            rw [hlo] at HR HQ
            obtain ⟨g, c6, hv6, hg6, hrow6⟩ := row_cell HR.out HY.out.2
            rw [hlo] at hv6
            injection hv6 with hv6 _ hv7
            subst hv6 hv7
            have hh0 := hrow6 0 HY.out.2
            have hh : w4.drew.cell? ⟨g, 0, none⟩ = some (.int .i64 (rd (os ++ [x]) 0)) := hh0
            have hcl : w4.drew.cell? (ad.add k) = some (.int .i64 x) := HCell.out _ (below_drew1 HQ.out.below)
            have hbse : (rd (os ++ [x]) 0 == x) = (rd (want os x) 0 == x) := by rw [HY.out.1]
            have HBse := Lib.hid hbse
            have hqd : QSt 41 W w4.drew (okv p (.slice (some ⟨g, 0, none⟩) (os.length + 1) c14)) p os := HQ.out.next ((Below.refl _ _).drew)
            have hrd : Kd.R (Kd.int .i64) 3 w4.drew (p + 1) (fun _ => True) (.slice (some ⟨g, 0, none⟩) (os.length + 1) c14) (os ++ [x]) := Kd.R_below HR.out ((Below.refl _ _).drew)
            have q10 : 0 < os.length + 1 := by omega
            have q9 : (0 : Int) < (os.length : Int) + 1 := by have := HY.out.2; omega
            clear hrow6 hh0 hbse HCw HSn
            generalize rd (os ++ [x]) 0 = y0 at hh HBse
            refine start_ (n := 15) (S := fun w' => w'.cell? (ad.add k) = some (.int .i64 x) ∧ w'.cell? ⟨g, 0, none⟩ = some (.int .i64 y0)) (ds := []) #[false, false, false, false, false, false, false, false, false, false, false, false, false, false, false] (by kernel_rfl) rfl rfl ⟨hcl, hh⟩ (fun hHeld => ?_)
            generalize w4.drew = w5 at hh hcl hqd hrd hHeld ⊢
            have HQ5 := Lib.hid hqd
            have HR5 := Lib.hid hrd
            have HH5 := Lib.hid hh
            clear hqd hrd hh hcl
            refine pure_ (i := 0) (N := some 52) (v := ?_) (a' := ?_) #[true, false, false, false, false, false, false, false, false, false, false, false, false, false, false] rfl rfl (by kernel_rfl) (fun _ _ _ h => h) (Or.inl ⟨by rfl, ?_⟩) ?_ ?_
            rotate_left
            · intro w'
              go_simp
              with_reducible rfl
            rotate_left
            · simp only [Act.put, List.setIfInBounds_toArray, List.set_cons_zero, List.set_cons_succ, i64_w, i32_w]
              rfl
            refine pure_ (i := 1) (N := some 53) (v := ?_) (a' := ?_) #[true, true, false, false, false, false, false, false, false, false, false, false, false, false, false] rfl rfl (by kernel_rfl) (fun _ _ _ h => h) (Or.inl ⟨by rfl, ?_⟩) ?_ ?_
            rotate_left
            · intro w'
              go_simp
              with_reducible rfl
            rotate_left
            · simp only [Act.put, List.setIfInBounds_toArray, List.set_cons_zero, List.set_cons_succ, i64_w, i32_w]
              rfl
            refine pure_ (i := 2) (N := some 54) (v := ?_) (a' := ?_) #[true, true, true, false, false, false, false, false, false, false, false, false, false, false, false] rfl rfl (by kernel_rfl) (fun _ _ _ h => h) (Or.inl ⟨by rfl, ?_⟩) ?_ ?_
            rotate_left
            · intro w'
              go_simp
              with_reducible rfl
            rotate_left
            · simp only [Act.put, List.setIfInBounds_toArray, List.set_cons_zero, List.set_cons_succ, i64_w, i32_w]
              rfl
            refine pure_ (i := 3) (N := some 55) (v := ?_) (a' := ?_) #[true, true, true, true, false, false, false, false, false, false, false, false, false, false, false] rfl rfl (by kernel_rfl) (fun _ _ _ h => h) (Or.inl ⟨by rfl, ?_⟩) ?_ ?_
            rotate_left
            · intro w'
              go_simp
              with_reducible rfl
            rotate_left
            · simp only [Act.put, List.setIfInBounds_toArray, List.set_cons_zero, List.set_cons_succ, i64_w, i32_w]
              rfl
            refine pure_ (i := 6) (N := some 58) (v := ?_) (a' := ?_) #[true, true, true, true, false, false, true, false, false, false, false, false, false, false, false] rfl rfl (by kernel_rfl) (fun _ _ _ h => h) (Or.inl ⟨by rfl, ?_⟩) ?_ ?_
            rotate_left
            · intro w'
              go_simp
              with_reducible rfl
            rotate_left
            · simp only [Act.put, List.setIfInBounds_toArray, List.set_cons_zero, List.set_cons_succ, i64_w, i32_w]
              rfl
            refine pure_ (i := 7) (N := some 59) (v := ?_) (a' := ?_) #[true, true, true, true, false, false, true, true, false, false, false, false, false, false, false] rfl rfl (by kernel_rfl) (fun _ _ _ h => h) (Or.inl ⟨by rfl, ?_⟩) ?_ ?_
            rotate_left
            · intro w'
              go_simp
              with_reducible rfl
            rotate_left
            · simp only [Act.put, List.setIfInBounds_toArray, List.set_cons_zero, List.set_cons_succ, i64_w, i32_w]
              rfl
            refine pure_ (i := 9) (N := some 61) (v := ?_) (a' := ?_) #[true, true, true, true, false, false, true, true, false, true, false, false, false, false, false] rfl rfl (by kernel_rfl) (fun _ _ _ h => h) (Or.inl ⟨by rfl, ?_⟩) ?_ ?_
            rotate_left
            · intro w'
              go_simp
              with_reducible rfl
            rotate_left
            · simp only [Act.put, List.setIfInBounds_toArray, List.set_cons_zero, List.set_cons_succ, i64_w, i32_w]
              rfl
            refine pure_ (i := 10) (N := some 62) (v := ?_) (a' := ?_) #[true, true, true, true, false, false, true, true, false, true, true, false, false, false, false] rfl rfl (by kernel_rfl) (fun _ _ _ h => h) (Or.inl ⟨by rfl, ?_⟩) ?_ ?_
            rotate_left
            · intro w'
              go_simp
              with_reducible rfl
            rotate_left
            · simp only [Act.put, List.setIfInBounds_toArray, List.set_cons_zero, List.set_cons_succ, i64_w, i32_w]
              rfl
            refine pure_ (i := 11) (N := some 63) (v := ?_) (a' := ?_) #[true, true, true, true, false, false, true, true, false, true, true, true, false, false, false] rfl rfl (by kernel_rfl) (fun _ _ _ h => h) (Or.inl ⟨by rfl, ?_⟩) ?_ ?_
            rotate_left
            · intro w'
              go_simp
              with_reducible rfl
            rotate_left
            · simp only [Act.put, List.setIfInBounds_toArray, List.set_cons_zero, List.set_cons_succ, i64_w, i32_w]
              rfl
            refine take_ (i := 4) (N := some 56) (v := ?_) (a' := ?_) #[true, true, true, true, true, false, true, true, false, true, true, true, false, false, false] rfl rfl (by kernel_rfl) (fun _ _ _ h => h) (Or.inl ⟨by rfl, ?_⟩) hHeld ?_ ?_
            rotate_left
            · rintro w' ⟨s0, s1⟩
              go_simp
              with_reducible rfl
            rotate_left
            · simp only [Act.put, List.setIfInBounds_toArray, List.set_cons_zero, List.set_cons_succ, i64_w, i32_w]
              rfl
            refine take_ (i := 8) (N := some 60) (v := ?_) (a' := ?_) #[true, true, true, true, true, false, true, true, true, true, true, true, false, false, false] rfl rfl (by kernel_rfl) (fun _ _ _ h => h) (Or.inl ⟨by rfl, ?_⟩) hHeld ?_ ?_
            rotate_left
            · rintro w' ⟨s0, s1⟩
              go_simp
              with_reducible rfl
            rotate_left
            · simp only [Act.put, List.setIfInBounds_toArray, List.set_cons_zero, List.set_cons_succ, i64_w, i32_w]
              rfl
            refine take_ (i := 12) (N := some 64) (v := ?_) (a' := ?_) #[true, true, true, true, true, false, true, true, true, true, true, true, true, false, false] rfl rfl (by kernel_rfl) (fun _ _ _ h => h) (Or.inl ⟨by rfl, ?_⟩) hHeld ?_ ?_
            rotate_left
            · rintro w' ⟨s0, s1⟩
              go_simp
              with_reducible rfl
            rotate_left
            · simp only [Act.put, List.setIfInBounds_toArray, List.set_cons_zero, List.set_cons_succ, i64_w, i32_w]
              rfl
            refine pure_ (i := 13) (N := some 65) (v := ?_) (a' := ?_) #[true, true, true, true, true, false, true, true, true, true, true, true, true, true, false] rfl rfl (by kernel_rfl) (fun _ _ _ h => h) (Or.inl ⟨by rfl, ?_⟩) ?_ ?_
            rotate_left
            · intro w'
              go_simp
              with_reducible rfl
            rotate_left
            · simp only [Act.put, List.setIfInBounds_toArray, List.set_cons_zero, List.set_cons_succ, i64_w, i32_w]
              rfl
            refine one_ (i := 5) (N := some 57) #[true, true, true, true, true, true, true, true, true, true, true, true, true, true, false] rfl rfl (by kernel_rfl) (by decide) (fun K hK => ?_)
            refine goes_ Try.func10 (by kernel_rfl) rfl #[.pointer (some ⟨p, 0, none⟩), .int .i64 x] (by rfl) rfl rfl (by simp only [List.map_toArray, List.map_cons, List.map_nil]; rfl) ?_
            with_reducible refine (want_q x HQ5.out (by omega)).mono ?_
            rintro e w6 ⟨rfl, hq6, hg6'⟩
            refine ⟨_, rfl, ?_⟩
            rw [HY.out.1] at hq6
            rw [← HBse.out]
            have hh6 : w6.cell? ⟨g, 0, none⟩ = some (.int .i64 y0) := cell_grown hg6' HH5.out (by intro he; injection he with he; simp at he; omega)
            have hcl6 := HCell.out w6 hq6.below
            have HR6 := Lib.hid (Kd.R_grown1 HR5.out rfl hg6' (fun he => by have := Kd.R_base HR5.out p he.symm; omega))
            have HQ6 := Lib.hid hq6
            clear hq6 hg6'
            refine hK.out _ _ ⟨hcl6, hh6⟩ (fun hHeld => ?_)
            clear hK K
            refine norm_ (a' := ?_) ?_ ?_
            rotate_left
            · show Act.put _ (some 57) _ = _
              simp only [Act.put, List.setIfInBounds_toArray, List.set_cons_zero, List.set_cons_succ, i64_w, i32_w]
              rfl
            refine pure_ (i := 14) (N := some 66) (v := ?_) (a' := ?_) #[true, true, true, true, true, true, true, true, true, true, true, true, true, true, true] rfl rfl (by kernel_rfl) (fun _ _ _ h => h) (Or.inl ⟨by rfl, ?_⟩) ?_ ?_
            rotate_left
            · intro w'
              go_simp
              with_reducible rfl
            rotate_left
            · simp only [Act.put, List.setIfInBounds_toArray, List.set_cons_zero, List.set_cons_succ, i64_w, i32_w]
              rfl
            refine done_ (by kernel_rfl) ?_
            clear hlo
            go_wp2
            go_roundw
            case rel => exact ⟨k + 1, by omega, by omega, by go_num, Lib.hid (by rw [HOT.out, HY.out.1]; exact ⟨HQ6.out, HR6.out⟩)⟩
            case measure => simp [intOf]; omega
    · have hstop : k < l.length → ¬ k < 100 := by omega
      by_cases hkl : k < l.length
      all_goals
        have hkl' : k < l.length → ¬ k < 100 := hstop
        clear hstop hlt
        generalize hos : once (l.take k) = os at HS hlen
        have HN := Lib.hid (show os.Nodup by rw [← hos]; exact nodup_once _)
        clear hos
        obtain ⟨A4, c4, hv4⟩ := row_nil HS.out.r
        subst hv4
        go_wp2
        go_loopw [8] (fun i wr2 => ∃ j, j ≤ os.length ∧ i = .int .i64 j ∧ Hid (QSt 41 W wr2 (okv p (.slice A4 os.length c4)) p (os.drop j)) ∧ Hid (Kd.R (Kd.int .i64) 3 wr2 (p + 1) (fun _ => True) (.slice A4 os.length c4) os)) (fun i _ => os.length - (intOf i).toNat)
        case atStart => exact ⟨0, by omega, rfl, HS.out.q, HS.out.r⟩
        case round =>
          clear HS
          obtain ⟨j, hj, rfl, HQ, HR⟩ := hrel
          by_cases hjl : j < os.length
          · obtain ⟨hl1, hl2, hl3, hl4, hl5⟩ := leave_drop HN.out hjl
            obtain ⟨g, c6, hv6, hg6, hrow6⟩ := row_cell HR.out (by omega)
            injection hv6 with hv6 _ hv7
            subst hv6 hv7
            have hcell := hrow6 j hjl
            have q : (j : Int) < (os.length : Int) := by omega
            have HL1 := Lib.hid hl1
            have HL2 := Lib.hid (decide_eq_true hl2)
            have HL3 := Lib.hid (decide_eq_false hl3)
            have HL4 := Lib.hid hl4
            have HL5 := Lib.hid hl5
            have hdl : (os.drop j).length = os.length - j := List.length_drop
            have HDL := Lib.hid hdl
            clear hl1 hl2 hl3 hl4 hl5 hrow6 hdl
            go_wp2_with fail
            refine (first_calls _ _ _ _ HQ.out.at_).mono ?_
            rintro e w4 ⟨rfl, rfl⟩
            rw [HL4.out, HL5.out]
            generalize rd os (j : Int) = y at *
            have HL6 := Lib.hid (show leave (os.drop (j + 1)) y = os.drop (j + 1) by rw [leave_erase]; exact List.erase_of_not_mem (by simpa using HL3.out))
            have hne : (((os.length - j : Nat) : Int) != (os.length : Int) - (j : Int)) = false := bne_eq_false_iff_eq.2 (by omega)
            go_wp2_with fail
            refine (waiting_calls _ _ (os.drop j) _ HQ.out.at_ (by rw [HDL.out]; omega)).mono ?_
            rintro e w5 ⟨v5, rfl, hr5, hb5⟩
            obtain ⟨A5, c5, rfl⟩ := Kd.R_slice hr5
            rw [HDL.out]
            have HQ5 := Lib.hid (HQ.out.next hb5)
            have HR5 := Lib.hid (Kd.R_below HR.out hb5)
            clear hr5 hb5
            go_wp2_with fail
            refine (leave_q y HQ5.out (by rw [HDL.out]; omega)).mono ?_
            rintro e w6 ⟨rfl, hq6, hg6⟩
            rw [HL2.out]
            rw [HL1.out] at hq6
            have HQ6 := Lib.hid hq6
            have HR6 := Lib.hid (Kd.R_grown1 HR5.out rfl hg6 (fun he => by have := Kd.R_base HR5.out p he.symm; omega))
            clear hq6 hg6
            go_wp2_with fail
            refine (leave_q y HQ6.out (by rw [List.length_drop]; omega)).mono ?_
            rintro e w7 ⟨rfl, hq7, hg7⟩
            rw [HL3.out]
            rw [HL6.out] at hq7
            have HQ7 := Lib.hid hq7
            have HR7 := Lib.hid (Kd.R_grown1 HR6.out rfl hg7 (fun he => by have := Kd.R_base HR6.out p he.symm; omega))
            clear hq7 hg7
            go_wp2
            go_roundw
            case rel => exact ⟨j + 1, by omega, by go_num, HQ7, HR7⟩
            case measure => simp [intOf]; omega
          · have hjo : j = os.length := by omega
            subst hjo
            have hnil : os.drop os.length = [] := List.drop_length
            have hq := HQ.out
            rw [hnil] at hq
            have HQE := Lib.hid hq
            clear hq hnil
            go_wp2_with fail
            refine (first_calls _ _ _ _ HQE.out.at_).mono ?_
            rintro e w4 ⟨rfl, rfl⟩
            go_wp2
            go_ret
            exact ⟨rfl, HQE.out.below⟩

end Go.Proofs.Yteecfeonjlhilaa.Walk
