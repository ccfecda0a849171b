/- The queues of chapter 15: contracts by hand of the methods, the third text: the document's queue; New, Waiting. -/
import Derived.Test.YteecfeonjlhilaaQueue2
import Derived.WalkSpells
import Derived.Lib.SliceRun
namespace Go.Proofs.Yteecfeonjlhilaa.Q
open Go.RowKit Go.Proofs.YteecfeonjlhilaaW.PrintWords Go.Proofs.YteecfeonjlhilaaW.PrintLast Go.Proofs.YteecfeonjlhilaaW.PrintMore Go.Proofs.Yteecfeonjlhilaa.Math
set_option linter.unusedVariables false
set_option linter.unusedSimpArgs false

set_option maxHeartbeats 1000000 in
theorem new_calls (w : World) :
    Calls Try.prog 7 #[] w fun e w' => e = .returned (.pointer (some ⟨w.heap.size, 0, none⟩)) ∧ w'.heap[w.heap.size]? = some (.cells #[.slice none 0 0] 41 (0, 0)) ∧ w'.heap.size = w.heap.size + 1 ∧ Below w.heap.size w w' := by
  go_enter Try.func7, Try.ntmps7
  go_wp2
  go_ret
  exact ⟨rfl, heap_alloc_new _ _, by simp, below_alloc (Below.refl _ _) _⟩

theorem At_new {T : TypeId} {w : World} {ok : Nat → Prop} {p : Nat} (h : w.heap[p]? = some (.cells #[.slice none 0 0] T (0, 0))) : At T w ok p [] :=
  ⟨none, 0, h, Nat.le_refl _, Kd.C_nil _ _, fun _ h => by cases h⟩

set_option maxHeartbeats 400000 in
theorem firstR_calls (ok : Nat → Prop) (p : Nat) (xs : List Int) (w : World) (h : At 29 w ok p xs) :
    Calls Try.prog 13 #[.pointer (some ⟨p, 0, none⟩)] w fun e w' => e = .returned (.tuple #[.int .i64 (rd xs 0), .bool (!xs.isEmpty)]) ∧ w = w' := by
  obtain ⟨A, c, h1, h2, h3, h4⟩ := h
  have k0 : w.cell? ⟨p, 0, none⟩ = some (.slice A xs.length c) := (blk_cell h1 0).trans rfl
  rcases Nat.eq_zero_or_pos xs.length with h0 | h0
  · have : xs = [] := List.eq_nil_of_length_eq_zero h0
    subst this
    clear h1 h2 h3 h4
    go_enter Try.func13, Try.ntmps13
    go_wp2
    go_ret2
    exact ⟨rfl, rfl⟩
  · obtain ⟨g, o, rfl, hcell⟩ := head_cell h3 (by omega) h4
    have hb : ((xs.length : Int) == 0) = false := beq_eq_false_iff_ne.2 (by omega)
    have hb2 : ¬ ((xs.length : Int) = 0) := by omega
    have q : (0 : Int) < (xs.length : Int) := by omega
    have hE := Lib.hid (show xs.isEmpty = false by cases xs with | nil => exact absurd h0 (by decide) | cons a l => rfl)
    clear h1 h2 h3 h4 h0
    go_enter Try.func13, Try.ntmps13
    go_wp2
    go_ret2
    exact ⟨by rw [hE.out]; rfl, rfl⟩

set_option maxHeartbeats 1000000 in
theorem at_calls (ok : Nat → Prop) (p : Nat) (xs : List Int) (no : Int) (w : World) (h : At 29 w ok p xs) :
    Calls Try.prog 17 #[.pointer (some ⟨p, 0, none⟩), .int .i64 no] w fun e w' => e = .returned (.int .i64 (idx xs no)) ∧ w = w' := by
  obtain ⟨A, c, h1, h2, h3, h4⟩ := h
  have k0 : w.cell? ⟨p, 0, none⟩ = some (.slice A xs.length c) := (blk_cell h1 0).trans rfl
  have hn := h3.2.1
  have H := Lib.hid h3
  clear h1 h2 h3 h4
  go_enter Try.func17, Try.ntmps17
  go_wp2
  go_loop [5] (fun i => ∃ k : Nat, k ≤ xs.length ∧ i = .int .i64 k ∧ no ∉ xs.take k) (fun i => xs.length - (intOf i).toNat)
  case atStart => exact ⟨0, Nat.zero_le _, rfl, by simp⟩
  case round =>
    obtain ⟨k, hk, rfl, hno⟩ := hrel
    have HNo := Lib.hid hno
    clear hno
    by_cases hlt : k < xs.length
    · obtain ⟨ad, rfl, hcell⟩ := Kd.at_int H.out (k : Int) (by omega) (by omega)
      rw [Int.toNat_natCast] at hcell
      have q : (k : Int) < (xs.length : Int) := by omega
      by_cases he : rd xs (k : Int) = no
      · have hb : (rd xs (k : Int) == no) = true := beq_iff_eq.2 he
        have hi := idx_found hlt HNo.out he
        have HI := Lib.hid hi
        clear hi he
        go_wp2
        go_ret
        exact ⟨by rw [HI.out]; rfl, rfl⟩
      · have hb : (rd xs (k : Int) == no) = false := beq_eq_false_iff_ne.2 he
        have HS := Lib.hid (idx_step hlt HNo.out he)
        clear he
        go_wp2
        go_round
        case rel => exact ⟨k + 1, by omega, by go_num, HS.out⟩
        case measure => simp [intOf]; omega
    · have hk2 : k = xs.length := by omega
      subst hk2
      have HI := Lib.hid (idx_none HNo.out)
      go_wp2
      go_ret
      exact ⟨by rw [HI.out]; rfl, rfl⟩

theorem rd_snoc_idx {xs : List Int} {no : Int} : (rd (want xs no) 0 == no) = (idx (want xs no) no == 0) := by
  have hp := want_pos xs no
  have hm : no ∈ want xs no := by unfold want; split <;> simp_all
  rw [idx_pos hm]
  generalize want xs no = ys at hp hm
  cases ys with
  | nil => simp at hp
  | cons a l =>
    rw [show rd (a :: l) 0 = a from rfl, List.idxOf_cons]
    by_cases h : a = no
    · subst h; simp
    · have h1 : (a == no) = false := beq_eq_false_iff_ne.2 h
      rw [h1]
      simp
      omega

set_option maxHeartbeats 1000000 in
theorem wantR_calls (ok : Nat → Prop) (p : Nat) (xs : List Int) (no : Int) (w : World) (h : At 29 w ok p xs) (hpb : ¬ ok p) (hbs : ∀ k, w.heap.size ≤ k → ok k) (hl : xs.length ≤ 1000) :
    Calls Try.prog 11 #[.pointer (some ⟨p, 0, none⟩), .int .i64 no] w fun e w' => e = .returned (.bool (rd (want xs no) 0 == no)) ∧ At 29 w' ok p (want xs no) ∧ w.grownBy w' (some p) := by
  rw [rd_snoc_idx]
  by_cases hm : no ∈ xs
  · have hi : idx xs no = (xs.idxOf no : Int) := idx_pos hm
    have hw : want xs no = xs := by unfold want; rw [if_pos hm]
    rw [hw, hi]
    have H := Lib.hid h
    have HI := Lib.hid hi
    have q : ¬ ((xs.idxOf no : Int) < 0) := by omega
    clear h hm hi hw
    go_enter Try.func11, Try.ntmps11
    go_wp2_with fail
    refine (at_calls ok p xs no w H.out).mono ?_
    rintro e w1 ⟨rfl, rfl⟩
    rw [HI.out]
    go_wp2_with fail
    refine (at_calls ok p xs no w H.out).mono ?_
    rintro e w1 ⟨rfl, rfl⟩
    rw [HI.out]
    go_wp2
    go_ret
    exact ⟨rfl, H.out, World.grownBy.refl _ _⟩
  · have hi : idx xs no = -1 := idx_neg hm
    have hw : want xs no = xs ++ [no] := by unfold want; rw [if_neg hm]
    rw [hw]
    obtain ⟨A, c, h1, h2, h3, h4⟩ := id h
    have k0 : w.cell? ⟨p, 0, none⟩ = some (.slice A xs.length c) := (blk_cell h1 0).trans rfl
    have H := Lib.hid h
    have HI := Lib.hid hi
    have HL := Lib.hid hl
    have HBS := Lib.hid hbs
    have H1 := Lib.hid h1
    have H3 := Lib.hid h3
    clear h hm hi hw hl hbs h1 h2 h3 h4
    go_enter Try.func11, Try.ntmps11
    go_wp2_with fail
    refine (at_calls ok p xs no w H.out).mono ?_
    rintro e w1 ⟨rfl, rfl⟩
    rw [HI.out]
    go_wp2_with (first
      | ((with_reducible refine gate_dst (N := 10) rfl ?_); refine Kd.R_lit (Kd.int .i64) (w0 := w) w.heap.size 3 ?hg (N := 10) ?hd (xs := ([] : List Int)) (inner := []) (ok := fun _ => True) (okp := fun _ => True) ?hr ?hp (fun _ hk => hk) trivial (Below.refl _ _) (Nat.le_refl _) (by simp) ?_; (case hd => rfl); (case hg => rfl); (case hr => first | (go_simp; done) | (go_simp; rfl)); (case hp => exact (Reps.none _ _)); intro v1 w1 ho hb hg_ hnew_; clear hg_ hnew_; have HO1 := Lib.hid ho; have HB1 := Lib.hid hb; have k1 : w1.cell? ⟨p, 0, none⟩ = some (.slice A xs.length c) := (blk_cell (block_below H1.out hb) 0).trans rfl; clear ho hb)
      | ((with_reducible refine gate_builtin (b := .append) (xs := #[.tmp 10, .tmp 14]) rfl ?_); at_builtin; refine Kd.R_append_rows (Kd.int .i64) (w0 := w) w.heap.size rfl (.tmp 10) (.tmp 14) 27 3 (.int .i64 0) 8 rfl Try.underlying27 info_int rfl (by decide) (by omega) v1 [] xs A xs.length c (fun _ => True) (fun _ => False) rfl rfl HO1.out (Kd.C_below H3.out HB1.out) (fun _ _ h => h) (fun _ h => h.elim) (fun _ _ => trivial) HB1.out HB1.out.size (by have := HL.out; simp; omega) ?_; intro v2 w2 ho hb hg_ hnew_; clear hg_ hnew_; have HO2 := Lib.hid ho; have HB2 := Lib.hid hb; clear ho hb)
      | ((with_reducible refine gate_dst (N := 17) rfl ?_); refine Kd.R_lit (Kd.int .i64) (w0 := w2) w2.heap.size 3 ?hg2 (N := 17) ?hd2 (xs := ([no] : List Int)) (inner := [.int .i64 no]) (ok := fun _ => True) (okp := fun _ => True) ?hr2 ?hp2 (fun _ hk => hk) trivial (Below.refl _ _) (Nat.le_refl _) (by simp) ?_; (case hd2 => rfl); (case hg2 => rfl); (case hr2 => first | (go_simp; done) | (go_simp; rfl)); (case hp2 => exact (Reps.one (show Kd.M (Kd.int .i64) _ _ _ no [.int .i64 no] from rfl) (Reps.none _ _))); intro v3 w3 ho hb hg_ hnew_; clear hg_ hnew_; obtain ⟨A3, c3, rfl⟩ := Kd.R_slice ho; have HO3 := Lib.hid (Kd.R_reads' ho).2.2; have HB3 := Lib.hid (below_step HB2.out hb); have HO2' := Lib.hid (Kd.R_below HO2.out hb); clear ho hb)
      | ((with_reducible refine gate_builtin (b := .append) (xs := #[.tmp 15, .tmp 17]) rfl ?_); at_builtin; refine Kd.R_append_rows (Kd.int .i64) (w0 := w) w.heap.size rfl (.tmp 15) (.tmp 17) 27 3 (.int .i64 0) 8 rfl Try.underlying27 info_int rfl (by decide) (by omega) v2 ([] ++ xs) [no] A3 _ c3 (fun _ => True) (fun _ => False) rfl rfl HO2'.out HO3.out (fun _ _ h => h) (fun _ h => h.elim) (fun _ _ => trivial) HB3.out HB3.out.size (by have := HL.out; simp; omega) ?_; intro v4 w4 ho hb hg_ hnew_; clear hg_ hnew_; obtain ⟨A4, c4, rfl⟩ := Kd.R_slice ho; have HO4 := Lib.hid ho; have HB4 := Lib.hid hb; have HP4 := Lib.hid (block_below H1.out hb); have k4 : w4.cell? ⟨p, 0, none⟩ = some (.slice A xs.length c) := (blk_cell HP4.out 0).trans rfl; have f4 := blk_frozen HP4.out 0; clear ho hb))
    have ha5 := At_store_R (ok := ok) HP4.out HO4.out HBS.out hpb
    rw [show ([] ++ xs ++ [no]) = xs ++ [no] by simp, show (xs ++ [no]).length = xs.length + 1 by simp] at ha5
    have HA5 := Lib.hid ha5
    clear ha5
    have HT5 := Lib.hid ((turns_below p HB4.out).trans (turns_set w4 p (.slice A4 (xs.length + 1) c4)))
    refine (at_calls ok p (xs ++ [no]) no _ HA5.out).mono ?_
    rintro e w6 ⟨rfl, rfl⟩
    go_wp2
    go_ret
    exact ⟨rfl, HA5.out, HT5.out⟩

set_option maxHeartbeats 2000000 in
theorem leaveR_calls (ok : Nat → Prop) (p : Nat) (xs : List Int) (no : Int) (w : World) (h : At 29 w ok p xs) (hpb : ¬ ok p) (hbs : ∀ k, w.heap.size ≤ k → ok k) (hl : xs.length ≤ 1000) :
    Calls Try.prog 9 #[.pointer (some ⟨p, 0, none⟩), .int .i64 no] w fun e w' => e = .returned (.bool (decide (no ∈ xs))) ∧ At 29 w' ok p (leave xs no) ∧ w.grownBy w' (some p) := by
  by_cases hm : no ∈ xs
  · have hlt := idxOf_lt hm
    have hi : idx xs no = (xs.idxOf no : Int) := idx_pos hm
    have hw : leave xs no = xs.take (xs.idxOf no) ++ xs.drop (xs.idxOf no + 1) := by unfold leave; rw [if_pos hm]
    rw [hw, decide_eq_true hm]
    generalize xs.idxOf no = i at hi hlt ⊢
    obtain ⟨A, c, h1, h2, h3, h4⟩ := id h
    obtain ⟨i0, hi0, hz0, hz1, hz2⟩ := info_parts info_int
    have hcut := cut_to (P := Try.prog) 27 3 .i64 Try.underlying27 hi0 A xs.length c (i : Int) (by omega) (by omega) h2
    rw [Int.toNat_natCast] at hcut
    have hdrop := Kd.C_drop (c := c) (m := i + 1) h3 (by omega) h2
    have htake := Kd.C_take (m := i) h3 (by omega)
    rw [show (xs.take i).length = i by rw [List.length_take]; omega] at htake
    rw [show (xs.drop (i + 1)).length = xs.length - (i + 1) by rw [List.length_drop]] at hdrop
    obtain ⟨g, o, rfl, _⟩ := head_cell h3 (by omega) h4
    obtain ⟨g2, hA2⟩ : ∃ a2 : Addr, (if c = i + 1 then some (⟨g, o, none⟩ : Addr) else some ⟨g, o + (i + 1), none⟩) = some a2 := by split <;> exact ⟨_, rfl⟩
    have hsz1 : (if c = i + 1 then some (⟨g, o, none⟩ : Addr) else (some (⟨g, o, none⟩ : Addr)).map (·.add ((i + 1) * (Kd.int .i64).sz))) = (if c = i + 1 then some (⟨g, o, none⟩ : Addr) else some ⟨g, o + (i + 1), none⟩) := by
      split
      · rfl
      · simp [Addr.add, Kd.int, Kd.scalar]
    rw [hsz1, hA2] at hdrop
    have hq1 : (0 : Int) ≤ (i : Int) + 1 := by omega
    have hq2 : (i : Int) + 1 ≤ (xs.length : Int) := by omega
    have hadd : IntKind.i64.wrap ((i : Int) + 1) = ((i + 1 : Nat) : Int) := by rw [wrapEq]; exact wrap_id (by omega) (by omega)
    have hk : w.cell? ⟨p, 0, none⟩ = some (.slice (some ⟨g, o, none⟩) xs.length c) := (blk_cell h1 0).trans rfl
    have H := Lib.hid h
    have HI := Lib.hid hi
    have HL := Lib.hid hl
    have HBS := Lib.hid hbs
    have HLt := Lib.hid hlt
    have H1 := Lib.hid h1
    have H3 := Lib.hid htake
    have H4 := Lib.hid hdrop
    have HD0 := Lib.hid ((Below.refl w.heap.size w).drew)
    have q : ¬ ((i : Int) < 0) := by omega
    clear h hm hi hw hl hbs hlt h1 h2 h3 h4 htake hdrop hsz1
    go_enter Try.func9, Try.ntmps9
    go_wp2_with fail
    refine (at_calls ok p xs no w H.out).mono ?_
    rintro e w1 ⟨rfl, rfl⟩
    rw [HI.out]
    go_wp2
    refine start_ (n := 20) (S := fun w' => w'.cell? ⟨p, 0, none⟩ = some (.slice (some ⟨g, o, none⟩) xs.length c)) (ds := [19]) #[false, false, false, false, false, false, false, false, false, false, false, false, false, false, false, false, false, false, false, false] (by kernel_rfl) rfl rfl (hk) (fun hHeld => ?_)
    generalize hw5 : w.drew = w5 at HD0 hHeld ⊢
    have HSz := Lib.hid (show w.heap.size = w5.heap.size by rw [← hw5]; rfl)
    clear hw5
    refine pure_ (i := 0) (N := some 11) (v := ?_) (a' := ?_) #[true, false, false, false, false, false, false, false, false, false, false, false, false, false, false, false, false, false, false, false] rfl rfl (by kernel_rfl) (fun _ _ _ h => h) (Or.inl ⟨by rfl, ?_⟩) ?_ ?_
    rotate_left
    · intro w'
      go_simp
      with_reducible rfl
    rotate_left
    · simp only [Act.put, List.setIfInBounds_toArray, List.set_cons_zero, List.set_cons_succ, i64_w, i32_w]
      rfl
    refine pure_ (i := 2) (N := some 13) (v := ?_) (a' := ?_) #[true, false, true, false, false, false, false, false, false, false, false, false, false, false, false, false, false, false, false, false] rfl rfl (by kernel_rfl) (fun _ _ _ h => h) (Or.inl ⟨by rfl, ?_⟩) ?_ ?_
    rotate_left
    · intro w'
      go_simp
      with_reducible rfl
    rotate_left
    · simp only [Act.put, List.setIfInBounds_toArray, List.set_cons_zero, List.set_cons_succ, i64_w, i32_w]
      rfl
    refine pure_ (i := 3) (N := some 14) (v := ?_) (a' := ?_) #[true, false, true, true, false, false, false, false, false, false, false, false, false, false, false, false, false, false, false, false] rfl rfl (by kernel_rfl) (fun _ _ _ h => h) (Or.inl ⟨by rfl, ?_⟩) ?_ ?_
    rotate_left
    · intro w'
      go_simp
      with_reducible rfl
    rotate_left
    · simp only [Act.put, List.setIfInBounds_toArray, List.set_cons_zero, List.set_cons_succ, i64_w, i32_w]
      rfl
    refine pure_ (i := 4) (N := some 15) (v := ?_) (a' := ?_) #[true, false, true, true, true, false, false, false, false, false, false, false, false, false, false, false, false, false, false, false] rfl rfl (by kernel_rfl) (fun _ _ _ h => h) (Or.inl ⟨by rfl, ?_⟩) ?_ ?_
    rotate_left
    · intro w'
      go_simp
      with_reducible rfl
    rotate_left
    · simp only [Act.put, List.setIfInBounds_toArray, List.set_cons_zero, List.set_cons_succ, i64_w, i32_w]
      rfl
    refine pure_ (i := 6) (N := some 17) (v := ?_) (a' := ?_) #[true, false, true, true, true, false, true, false, false, false, false, false, false, false, false, false, false, false, false, false] rfl rfl (by kernel_rfl) (fun _ _ _ h => h) (Or.inl ⟨by rfl, ?_⟩) ?_ ?_
    rotate_left
    · intro w'
      go_simp
      with_reducible rfl
    rotate_left
    · simp only [Act.put, List.setIfInBounds_toArray, List.set_cons_zero, List.set_cons_succ, i64_w, i32_w]
      rfl
    refine pure_ (i := 9) (N := some 20) (v := ?_) (a' := ?_) #[true, false, true, true, true, false, true, false, false, true, false, false, false, false, false, false, false, false, false, false] rfl rfl (by kernel_rfl) (fun _ _ _ h => h) (Or.inl ⟨by rfl, ?_⟩) ?_ ?_
    rotate_left
    · intro w'
      go_simp
      with_reducible rfl
    rotate_left
    · simp only [Act.put, List.setIfInBounds_toArray, List.set_cons_zero, List.set_cons_succ, i64_w, i32_w]
      rfl
    refine pure_ (i := 10) (N := some 21) (v := ?_) (a' := ?_) #[true, false, true, true, true, false, true, false, false, true, true, false, false, false, false, false, false, false, false, false] rfl rfl (by kernel_rfl) (fun _ _ _ h => h) (Or.inl ⟨by rfl, ?_⟩) ?_ ?_
    rotate_left
    · intro w'
      go_simp
      with_reducible rfl
    rotate_left
    · simp only [Act.put, List.setIfInBounds_toArray, List.set_cons_zero, List.set_cons_succ, i64_w, i32_w]
      rfl
    refine pure_ (i := 11) (N := some 22) (v := ?_) (a' := ?_) #[true, false, true, true, true, false, true, false, false, true, true, true, false, false, false, false, false, false, false, false] rfl rfl (by kernel_rfl) (fun _ _ _ h => h) (Or.inl ⟨by rfl, ?_⟩) ?_ ?_
    rotate_left
    · intro w'
      go_simp
      with_reducible rfl
    rotate_left
    · simp only [Act.put, List.setIfInBounds_toArray, List.set_cons_zero, List.set_cons_succ, i64_w, i32_w]
      rfl
    refine pure_ (i := 13) (N := some 24) (v := ?_) (a' := ?_) #[true, false, true, true, true, false, true, false, false, true, true, true, false, true, false, false, false, false, false, false] rfl rfl (by kernel_rfl) (fun _ _ _ h => h) (Or.inl ⟨by rfl, ?_⟩) ?_ ?_
    rotate_left
    · intro w'
      go_simp
      with_reducible rfl
    rotate_left
    · simp only [Act.put, List.setIfInBounds_toArray, List.set_cons_zero, List.set_cons_succ, i64_w, i32_w]
      rfl
    refine pure_ (i := 14) (N := some 25) (v := ?_) (a' := ?_) #[true, false, true, true, true, false, true, false, false, true, true, true, false, true, true, false, false, false, false, false] rfl rfl (by kernel_rfl) (fun _ _ _ h => h) (Or.inl ⟨by rfl, ?_⟩) ?_ ?_
    rotate_left
    · intro w'
      go_simp
      with_reducible rfl
    rotate_left
    · simp only [Act.put, List.setIfInBounds_toArray, List.set_cons_zero, List.set_cons_succ, i64_w, i32_w]
      rfl
    refine take_ (i := 5) (N := some 16) (v := ?_) (a' := ?_) #[true, false, true, true, true, true, true, false, false, true, true, true, false, true, true, false, false, false, false, false] rfl rfl (by kernel_rfl) (fun _ _ _ h => h) (Or.inl ⟨by rfl, ?_⟩) hHeld ?_ ?_
    rotate_left
    · intro w' s0
      go_simp
      with_reducible rfl
    rotate_left
    · simp only [Act.put, List.setIfInBounds_toArray, List.set_cons_zero, List.set_cons_succ, i64_w, i32_w]
      rfl
    refine pure_ (i := 7) (N := some 18) (v := ?_) (a' := ?_) #[true, false, true, true, true, true, true, true, false, true, true, true, false, true, true, false, false, false, false, false] rfl rfl (by kernel_rfl) (fun _ _ _ h => h) (Or.inl ⟨by rfl, ?_⟩) ?_ ?_
    rotate_left
    · intro w'
      go_simp
      with_reducible rfl
    rotate_left
    · simp only [Act.put, List.setIfInBounds_toArray, List.set_cons_zero, List.set_cons_succ, i64_w, i32_w]
      rfl
    refine take_ (i := 12) (N := some 23) (v := ?_) (a' := ?_) #[true, false, true, true, true, true, true, true, false, true, true, true, true, true, true, false, false, false, false, false] rfl rfl (by kernel_rfl) (fun _ _ _ h => h) (Or.inl ⟨by rfl, ?_⟩) hHeld ?_ ?_
    rotate_left
    · intro w' s0
      go_simp
      with_reducible rfl
    rotate_left
    · simp only [Act.put, List.setIfInBounds_toArray, List.set_cons_zero, List.set_cons_succ, i64_w, i32_w]
      rfl
    refine pure_ (i := 15) (N := some 26) (v := ?_) (a' := ?_) #[true, false, true, true, true, true, true, true, false, true, true, true, true, true, true, true, false, false, false, false] rfl rfl (by kernel_rfl) (fun _ _ _ h => h) (Or.inl ⟨by rfl, ?_⟩) ?_ ?_
    rotate_left
    · intro w'
      go_simp
      with_reducible rfl
    rotate_left
    · simp only [Act.put, List.setIfInBounds_toArray, List.set_cons_zero, List.set_cons_succ, i64_w, i32_w]
      rfl
    refine one_ (i := 1) (N := some 12) #[true, true, true, true, true, true, true, true, false, true, true, true, true, true, true, true, false, false, false, false] rfl rfl (by kernel_rfl) (by decide) (fun K hK => ?_)
    refine Kd.R_lit_step (Kd.int .i64) (w0 := w) w.heap.size 3 ?hg (N := 12) ?hd (xs := ([] : List Int)) (inner := []) (ok := fun _ => True) (okp := fun _ => True) ?hr ?hp (fun _ hk => hk) trivial HD0.out HD0.out.size (by simp) ?_; (case hd => rfl); (case hg => rfl); (case hr => first | (go_simp; done) | (go_simp; rfl)); (case hp => exact (Reps.none _ _))
    intro v1 w1 ho hb hg_ hnew_
    clear hg_ hnew_
    have HO1 := Lib.hid ho
    have HB1 := Lib.hid hb
    clear ho hb
    refine hK.out _ _ ((blk_cell (block_below H1.out HB1.out) 0).trans rfl) (fun hHeld => ?_)
    clear hK K
    refine norm_ (a' := ?_) ?_ ?_
    rotate_left
    · show Act.put _ (some 12) _ = _
      simp only [Act.put, List.setIfInBounds_toArray, List.set_cons_zero, List.set_cons_succ, i64_w, i32_w]
      rfl
    refine one_ (i := 8) (N := some 19) #[true, true, true, true, true, true, true, true, true, true, true, true, true, true, true, true, false, false, false, false] rfl rfl (by kernel_rfl) (by decide) (fun K hK => ?_)
    refine Kd.R_append_rows_step (Kd.int .i64) (w0 := w) w.heap.size (by rfl) (.tmp 12) (.tmp 18) 27 3 (.int .i64 0) 8 (by rfl) Try.underlying27 info_int rfl (by decide) (by omega) v1 [] (xs.take i) (some ⟨g, o, none⟩) i c (fun _ => True) (fun _ => False) (by rfl) (by rfl) HO1.out (Kd.C_below H3.out HB1.out) (fun _ _ h => h) (fun _ h => h.elim) (fun _ _ => trivial) HB1.out HB1.out.size (by have := HL.out; have := HLt.out; simp; omega) ?_
    intro v2 w2 ho hb hg_ hnew_
    clear hg_ hnew_
    have HO2 := Lib.hid ho
    have HB2 := Lib.hid hb
    clear ho hb
    refine hK.out _ _ ((blk_cell (block_below H1.out HB2.out) 0).trans rfl) (fun hHeld => ?_)
    clear hK K
    refine norm_ (a' := ?_) ?_ ?_
    rotate_left
    · show Act.put _ (some 19) _ = _
      simp only [Act.put, List.setIfInBounds_toArray, List.set_cons_zero, List.set_cons_succ, i64_w, i32_w]
      rfl
    refine one_ (i := 16) (N := some 27) #[true, true, true, true, true, true, true, true, true, true, true, true, true, true, true, true, true, false, false, false] rfl rfl (by kernel_rfl) (by decide) (fun K hK => ?_)
    refine Kd.R_append_rows_step (Kd.int .i64) (w0 := w) w.heap.size (by rfl) (.tmp 19) (.tmp 26) 27 3 (.int .i64 0) 8 (by rfl) Try.underlying27 info_int rfl (by decide) (by omega) v2 ([] ++ xs.take i) (xs.drop (i + 1)) (some g2) (xs.length - (i + 1)) (c - (i + 1)) (fun _ => True) (fun _ => False) (by rfl) (by rfl) HO2.out (Kd.C_below H4.out HB2.out) (fun _ _ h => h) (fun _ h => h.elim) (fun _ _ => trivial) HB2.out HB2.out.size (by have := HL.out; have := HLt.out; simp; omega) ?_
    intro v3 w3 ho hb hg_ hnew_
    clear hg_ hnew_
    obtain ⟨A3, c3, rfl⟩ := Kd.R_slice ho
    have HO3 := Lib.hid ho
    have HB3 := Lib.hid hb
    have HP3 := Lib.hid (block_below H1.out hb)
    have k3 : w3.cell? ⟨p, 0, none⟩ = some (.slice (some ⟨g, o, none⟩) xs.length c) := (blk_cell HP3.out 0).trans rfl
    have f3 := blk_frozen HP3.out 0
    clear ho hb
    refine hK.out _ _ (k3) (fun hHeld => ?_)
    clear hK K
    refine norm_ (a' := ?_) ?_ ?_
    rotate_left
    · show Act.put _ (some 27) _ = _
      simp only [Act.put, List.setIfInBounds_toArray, List.set_cons_zero, List.set_cons_succ, i64_w, i32_w]
      rfl
    refine pure_ (i := 17) (N := some 28) (v := ?_) (a' := ?_) #[true, true, true, true, true, true, true, true, true, true, true, true, true, true, true, true, true, true, false, false] rfl rfl (by kernel_rfl) (fun _ _ _ h => h) (Or.inl ⟨by rfl, ?_⟩) ?_ ?_
    rotate_left
    · intro w'
      go_simp
      with_reducible rfl
    rotate_left
    · simp only [Act.put, List.setIfInBounds_toArray, List.set_cons_zero, List.set_cons_succ, i64_w, i32_w]
      rfl
    refine pure_ (i := 18) (N := some 29) (v := ?_) (a' := ?_) #[true, true, true, true, true, true, true, true, true, true, true, true, true, true, true, true, true, true, true, false] rfl rfl (by kernel_rfl) (fun _ _ _ h => h) (Or.inl ⟨by rfl, ?_⟩) ?_ ?_
    rotate_left
    · intro w'
      go_simp
      with_reducible rfl
    rotate_left
    · simp only [Act.put, List.setIfInBounds_toArray, List.set_cons_zero, List.set_cons_succ, i64_w, i32_w]
      rfl
    refine last_ (i := 19) (N := none) #[true, true, true, true, true, true, true, true, true, true, true, true, true, true, true, true, true, true, true, true] rfl rfl (by kernel_rfl) (by decide) (fun K hK => ?_)
    refine skip_ (w1 := ?_) (by rfl) rfl ?_ ?_
    rotate_left
    · go_simp
      rfl
    refine hK.out _ _ ?_
    clear hK K
    refine done_ (by kernel_rfl) ?_
    have HA5 := Lib.hid (At_store_R (ok := ok) HP3.out HO3.out HBS.out hpb)
    have HT5 := Lib.hid ((turns_below p HB3.out).trans (turns_set w3 p (.slice A3 ([] ++ xs.take i ++ xs.drop (i + 1)).length c3)))
    go_wp2
    go_ret
    exact ⟨rfl, by simpa using HA5.out, by simpa using HT5.out⟩
  · have hi : idx xs no = -1 := idx_neg hm
    have hw : leave xs no = xs := by unfold leave; rw [if_neg hm]
    rw [hw, decide_eq_false hm]
    have H := Lib.hid h
    have HI := Lib.hid hi
    clear h hm hi hw hl hbs
    go_enter Try.func9, Try.ntmps9
    go_wp2_with fail
    refine (at_calls ok p xs no w H.out).mono ?_
    rintro e w1 ⟨rfl, rfl⟩
    rw [HI.out]
    go_wp2
    go_ret
    exact ⟨rfl, H.out, World.grownBy.refl _ _⟩

set_option maxHeartbeats 1000000 in
theorem clone_calls (A : Option Addr) (c : Nat) (xs : List Int) (w : World) (h : Kd.C (Kd.int .i64) w A xs.length xs) (hl : xs.length ≤ 1000) :
    Calls Try.prog 18 #[.slice A xs.length c] w fun e w' => ∃ v, e = .returned v ∧ Kd.R (Kd.int .i64) 3 w' w.heap.size (fun _ => True) v xs ∧ Below w.heap.size w w' := by
  have q : ∀ (w : World) (a : Option Addr) (n c n' c' : Nat), (binOp .eql 27 (.slice a n c) (.slice none n' c')).run Try.prog w = .ok (.bool a.isNone) w := fun w a n c n' c' => Lib.run_eql_slice_nil w _ _ a n c n' c' Try.underlying27
  rcases A with _ | ad
  · have h0 := C_none h
    subst h0
    clear h
    go_enter Try.func18, Try.ntmps18
    go_wp2
    go_ret
    exact ⟨_, rfl, Kd.R_nil _ _ _ _ _, Below.refl _ _⟩
  · have H3 := Lib.hid h
    have HL := Lib.hid hl
    clear h hl
    go_enter Try.func18, Try.ntmps18
    go_wp2_with (first
      | ((with_reducible refine gate_dst (N := 5) rfl ?_); refine Kd.R_lit (Kd.int .i64) (w0 := w) w.heap.size 3 ?hg (N := 5) ?hd (xs := ([] : List Int)) (inner := []) (ok := fun _ => True) (okp := fun _ => True) ?hr ?hp (fun _ hk => hk) trivial (Below.refl _ _) (Nat.le_refl _) (by simp) ?_; (case hd => rfl); (case hg => rfl); (case hr => first | (go_simp; done) | (go_simp; rfl)); (case hp => exact (Reps.none _ _)); intro v1 w1 ho hb hg_ hnew_; clear hg_ hnew_; have HO1 := Lib.hid ho; have HB1 := Lib.hid hb; clear ho hb)
      | ((with_reducible refine gate_builtin (b := .append) (xs := #[.tmp 5, .tmp 6]) rfl ?_); at_builtin; refine Kd.R_append_rows (Kd.int .i64) (w0 := w) w.heap.size rfl (.tmp 5) (.tmp 6) 27 3 (.int .i64 0) 8 rfl Try.underlying27 info_int rfl (by decide) (by omega) v1 [] xs (some ad) xs.length c (fun _ => True) (fun _ => False) rfl rfl HO1.out (Kd.C_below H3.out HB1.out) (fun _ _ h => h) (fun _ h => h.elim) (fun _ _ => trivial) HB1.out HB1.out.size (by have := HL.out; simp; omega) ?_; intro v2 w2 ho hb hg_ hnew_; clear hg_ hnew_; have HO2 := Lib.hid ho; have HB2 := Lib.hid hb; clear ho hb))
    go_ret
    exact ⟨_, rfl, by simpa using HO2.out, HB2.out⟩

set_option maxHeartbeats 1000000 in
theorem waiting_calls (ok : Nat → Prop) (p : Nat) (xs : List Int) (w : World) (h : At 41 w ok p xs) (hl : xs.length ≤ 1000) :
    Calls Try.prog 15 #[.pointer (some ⟨p, 0, none⟩)] w fun e w' => ∃ v, e = .returned v ∧ Kd.R (Kd.int .i64) 3 w' w.heap.size (fun _ => True) v xs ∧ Below w.heap.size w w' := by
  obtain ⟨A, c, h1, h2, h3, h4⟩ := h
  have k0 : w.cell? ⟨p, 0, none⟩ = some (.slice A xs.length c) := (blk_cell h1 0).trans rfl
  have H := Lib.hid h3
  have HL := Lib.hid hl
  clear h1 h2 h3 h4 hl
  go_enter Try.func15, Try.ntmps15
  go_wp2_with fail
  refine (clone_calls A c xs w H.out HL.out).mono ?_
  rintro e w1 ⟨v, rfl, hr, hb⟩
  have HR := Lib.hid hr
  have HB := Lib.hid hb
  clear hr hb
  go_wp2
  go_ret
  exact ⟨_, rfl, HR.out, HB.out⟩

end Go.Proofs.Yteecfeonjlhilaa.Q
