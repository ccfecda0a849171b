/- The queues of chapter 15: contracts by hand of their methods, the second text: Want, Leave, First, Waiting, New. -/
import Derived.Test.YteecfeonjlhilaaQueue
namespace Go.Proofs.Yteecfeonjlhilaa.Q
open Go.RowKit Go.Proofs.YteecfeonjlhilaaW.PrintWords Go.Proofs.YteecfeonjlhilaaW.PrintLast Go.Proofs.YteecfeonjlhilaaW.PrintMore Go.Proofs.Yteecfeonjlhilaa.Math
set_option linter.unusedVariables false
set_option linter.unusedSimpArgs false

/-! worlds in which one block alone may have been turned -/
theorem turns_below {w w1 : World} (p : Nat) (h : Below w.heap.size w w1) : w.grownBy w1 (some p) := grown_of_below h _
theorem turns_none {w w1 : World} {p : Nat} (h : w.grownBy w1 none) : w.grownBy w1 (some p) := ⟨h.os, h.tape, h.output, h.size, fun k hk _ => h.block k hk (by simp)⟩
theorem turns_set (w : World) (p : Nat) (u : Value) : w.grownBy (w.setCell ⟨p, 0, none⟩ u) (some p) := ⟨rfl, rfl, rfl, by simp [World.setCell], fun k _ hne => Below.heap_setCell w ⟨p, 0, none⟩ u k (fun h => hne (by rw [h]))⟩
theorem turns_drew {w w1 : World} {p : Nat} (h : w.grownBy w1 (some p)) : w.grownBy w1.drew (some p) := ⟨h.os, h.tape, h.output, h.size, h.block⟩
theorem turns_alloc {w w1 : World} {p : Nat} (h : w.grownBy w1 (some p)) (o : Obj) : w.grownBy (w1.alloc o) (some p) := h.trans (turns_below p (below_alloc (Below.refl _ _) o))

/-- A queue's row is laid anew. -/
theorem At_store_C {T : TypeId} {w : World} {ok : Nat → Prop} {p : Nat} {ys : List Int} {u : Value} {A : Option Addr} {n c : Nat} (hp : w.heap[p]? = some (.cells #[u] T (0, 0))) (hC : Kd.C (Kd.int .i64) w A ys.length ys) (hle : ys.length ≤ c)
    (hA : ∀ ad, A = some ad → (ok ad.block ∧ ad.block < w.heap.size) ∧ ad = ⟨ad.block, ad.off, none⟩) (hpb : ¬ ok p) (hn : n = ys.length) : At T (w.setCell ⟨p, 0, none⟩ (.slice A n c)) ok p ys := by
  subst hn
  refine ⟨A, c, ?_, hle, C_grown hC (turns_set w p _) (fun ad hA' h => by injection h with h; rw [← h] at hpb; exact hpb (hA ad hA').1.1), fun ad hA' => ⟨⟨(hA ad hA').1.1, by have := (hA ad hA').1.2; simpa using this⟩, (hA ad hA').2⟩⟩
  have := blk_set hp 0 (.slice A ys.length c)
  simpa using this
theorem own_addr {w : World} {b0 e size n m c : Nat} {A : Option Addr} {cs : List Value} (ho : w.ownsRow b0 e size (.slice A m c) n cs) : ∀ ad, A = some ad → (b0 ≤ ad.block ∧ ad.block < w.heap.size) ∧ ad = ⟨ad.block, ad.off, none⟩ := by
  intro ad hA
  rcases ho.2 with ⟨h1, _⟩ | ⟨g, cap, cur, h1, hg, hh, _⟩
  · injection h1 with h1; rw [h1] at hA; cases hA
  · injection h1 with h1; rw [h1] at hA; injection hA with hA; subst hA; exact ⟨⟨hg, blk_lt hh⟩, rfl⟩
theorem At_store {T e : TypeId} {w : World} {ok : Nat → Prop} {b0 p : Nat} {xs : List Int} {u v : Value} {n : Nat} (hp : w.heap[p]? = some (.cells #[u] T (0, 0))) (ho : w.ownsRow b0 e 1 v n (nums .i64 xs)) (hn : n = xs.length) (hb : ∀ k, b0 ≤ k → ok k) (hpb : ¬ ok p) :
    At T (w.setCell ⟨p, 0, none⟩ v) ok p xs := by
  subst hn
  obtain ⟨A, c, rfl, hr⟩ := own_reads ho
  have hC : Kd.C (Kd.int .i64) w A xs.length xs := Kd.C_of_reads (d := (0 : Int)) ⟨rfl, hr.2.1, fun hpos => by
    obtain ⟨ad, h1, h2⟩ := hr.2.2 hpos
    exact ⟨ad, h1, h2⟩⟩
  exact At_store_C hp hC (own_le ho) (fun ad hA => ⟨⟨hb _ (own_addr ho ad hA).1.1, (own_addr ho ad hA).1.2⟩, (own_addr ho ad hA).2⟩) hpb rfl
theorem At_store_R {T e : TypeId} {w : World} {ok : Nat → Prop} {b0 p : Nat} {okr : Nat → Prop} {xs : List Int} {u v : Value} (hp : w.heap[p]? = some (.cells #[u] T (0, 0))) (ho : Kd.R (Kd.int .i64) e w b0 okr v xs) (hb : ∀ k, b0 ≤ k → ok k) (hpb : ¬ ok p) :
    At T (w.setCell ⟨p, 0, none⟩ v) ok p xs := by
  obtain ⟨A, c, rfl, hle, hC⟩ := Kd.R_reads ho
  obtain ⟨_, inner, hown, _⟩ := ho
  exact At_store_C hp hC hle (fun ad hA => ⟨⟨hb _ (own_addr hown ad hA).1.1, (own_addr hown ad hA).1.2⟩, (own_addr hown ad hA).2⟩) hpb rfl

theorem C_cells {k : IntKind} {w : World} {A : Option Addr} {xs : List Int} (h : Kd.C (Kd.int k) w A xs.length xs) :
    ∀ b, A = some b → ∀ j u, (xs.map (Value.int k))[j]? = some u → w.cell? (b.add j) = some u := by
  intro b hb j u hu
  have hp : 0 < xs.length := by
    rcases Nat.eq_zero_or_pos xs.length with h0 | h0
    · rw [List.eq_nil_of_length_eq_zero h0] at hu; simp at hu
    · exact h0
  obtain ⟨ad, h1, h2⟩ := C_src h hp
  rw [h1] at hb
  injection hb with hb
  subst hb
  exact h2 j u hu
theorem C_nil_len {k : IntKind} {w : World} {A : Option Addr} {xs : List Int} (h : Kd.C (Kd.int k) w A xs.length xs) : A = none → xs.length = 0 ∧ xs.length = 0 := by
  rintro rfl
  rw [C_none h]
  exact ⟨rfl, rfl⟩

def want (xs : List Int) (no : Int) : List Int := if no ∈ xs then xs else xs ++ [no]
def leave (xs : List Int) (no : Int) : List Int := if no ∈ xs then xs.take (xs.idxOf no) ++ xs.drop (xs.idxOf no + 1) else xs
theorem want_pos (xs : List Int) (no : Int) : 0 < (want xs no).length := by
  unfold want
  split
  · exact List.length_pos_of_mem ‹_›
  · simp

theorem idx_neg {xs : List Int} {no : Int} (h : no ∉ xs) : idx xs no = -1 := by unfold idx; rw [if_neg h]
theorem idx_pos {xs : List Int} {no : Int} (h : no ∈ xs) : idx xs no = (xs.idxOf no : Int) := by unfold idx; rw [if_pos h]

theorem info_int : (Try.prog.info? 3).map (fun i => (i.zero, i.size, i.bytes)) = some (some (.int .i64 0), 1, 8) := by kernel_rfl

theorem head_cell {w : World} {A : Option Addr} {xs : List Int} {ok : Nat → Prop} (h : Kd.C (Kd.int .i64) w A xs.length xs) (hp : 0 < xs.length) (h4 : ∀ ad, A = some ad → (ok ad.block ∧ ad.block < w.heap.size) ∧ ad = ⟨ad.block, ad.off, none⟩) :
    ∃ g o, A = some ⟨g, o, none⟩ ∧ w.cell? ⟨g, o, none⟩ = some (.int .i64 (rd xs 0)) := by
  obtain ⟨ad, rfl, hcell⟩ := Kd.at_int h 0 (by omega) (by omega)
  obtain ⟨_, h5⟩ := h4 ad rfl
  rw [h5] at hcell ⊢
  refine ⟨_, _, rfl, ?_⟩
  simpa [Addr.add] using hcell

set_option maxHeartbeats 400000 in
theorem first_calls (ok : Nat → Prop) (p : Nat) (xs : List Int) (w : World) (h : At 41 w ok p xs) :
    Calls Try.prog 12 #[.pointer (some ⟨p, 0, none⟩)] w fun e w' => e = .returned (.tuple #[.int .i64 (rd xs 0), .bool (!xs.isEmpty)]) ∧ w = w' := by
  obtain ⟨A, c, h1, h2, h3, h4⟩ := h
  have k0 : w.cell? ⟨p, 0, none⟩ = some (.slice A xs.length c) := (blk_cell h1 0).trans rfl
  rcases Nat.eq_zero_or_pos xs.length with h0 | h0
  · have : xs = [] := List.eq_nil_of_length_eq_zero h0
    subst this
    clear h1 h2 h3 h4
    go_enter Try.func12, Try.ntmps12
    go_wp2
    go_ret2
    exact ⟨rfl, rfl⟩
  · obtain ⟨g, o, rfl, hcell⟩ := head_cell h3 (by omega) h4
    have hb : ((xs.length : Int) == 0) = false := beq_eq_false_iff_ne.2 (by omega)
    have hb2 : ¬ ((xs.length : Int) = 0) := by omega
    have q : (0 : Int) < (xs.length : Int) := by omega
    have hE := Lib.hid (show xs.isEmpty = false by cases xs with | nil => exact absurd h0 (by decide) | cons a l => rfl)
    clear h1 h2 h3 h4 h0
    go_enter Try.func12, Try.ntmps12
    go_wp2
    go_ret2
    exact ⟨by rw [hE.out]; rfl, rfl⟩

set_option maxHeartbeats 1000000 in
theorem want_calls (ok : Nat → Prop) (p : Nat) (xs : List Int) (no : Int) (w : World) (h : At 41 w ok p xs) (hpb : ¬ ok p) (hbs : ∀ k, w.heap.size ≤ k → ok k) (hl : xs.length ≤ 1000) :
    Calls Try.prog 10 #[.pointer (some ⟨p, 0, none⟩), .int .i64 no] w fun e w' => e = .returned (.bool (rd (want xs no) 0 == no)) ∧ At 41 w' ok p (want xs no) ∧ w.grownBy w' (some p) := by
  by_cases hm : no ∈ xs
  · have hi : idx xs no = (xs.idxOf no : Int) := idx_pos hm
    have hw : want xs no = xs := by unfold want; rw [if_pos hm]
    have hpos : 0 < xs.length := List.length_pos_of_mem hm
    rw [hw]
    have H := Lib.hid h
    have HM := Lib.hid hm
    have HI := Lib.hid hi
    have q : ¬ ((xs.idxOf no : Int) < 0) := by omega
    clear h hm hi hw
    go_enter Try.func10, Try.ntmps10
    go_wp2_with fail
    refine (place_calls ok p xs no w H.out).mono ?_
    rintro e w1 ⟨rfl, hb⟩
    rw [HI.out]
    obtain ⟨A, c, h1, h2, h3, h4⟩ := At_below H.out hb
    have k0 : w1.cell? ⟨p, 0, none⟩ = some (.slice A xs.length c) := (blk_cell h1 0).trans rfl
    obtain ⟨g, o, rfl, hcell⟩ := head_cell h3 (by omega) h4
    have q2 : (0 : Int) < (xs.length : Int) := by omega
    have HA := Lib.hid (At_below H.out hb)
    have HB := Lib.hid (turns_below p hb)
    clear hb h1 h2 h3 h4 hpos
    go_wp2
    go_ret
    exact ⟨rfl, HA.out, HB.out⟩
  · have hi : idx xs no = -1 := idx_neg hm
    have hw : want xs no = xs ++ [no] := by unfold want; rw [if_neg hm]
    rw [hw]
    have H := Lib.hid h
    have HI := Lib.hid hi
    have HL := Lib.hid hl
    have HBS := Lib.hid hbs
    clear h hm hi hw hl hbs
    go_enter Try.func10, Try.ntmps10
    go_wp2_with fail
    refine (place_calls ok p xs no w H.out).mono ?_
    rintro e w1 ⟨rfl, hb⟩
    rw [HI.out]
    obtain ⟨A, c, h1, h2, h3, h4⟩ := At_below H.out hb
    have k0 : w1.cell? ⟨p, 0, none⟩ = some (.slice A xs.length c) := (blk_cell h1 0).trans rfl
    have hplt := blk_lt h1
    obtain ⟨i0, hi0, hz0, hz1, hz2⟩ := info_parts info_int
    have hcut := cut_to3 (P := Try.prog) 27 3 .i64 .i64 Try.underlying27 hi0 A xs.length c (xs.length : Int) (xs.length : Int) (by omega) (by omega) (by omega)
    rw [Int.toNat_natCast] at hcut
    have HB := Lib.hid (turns_below p hb)
    have HSz := Lib.hid hb.size
    have H1 := Lib.hid h1
    have H3 := Lib.hid h3
    clear hb h1 h2 h3 h4
    go_wp2
    have hd := blk_drew H1.out
    have hdb := turns_drew HB.out
    have hds : w.heap.size ≤ w1.drew.heap.size := HSz.out
    have h3d : Kd.C (Kd.int .i64) w1.drew A xs.length xs := Kd.C_below H3.out (Below.refl _ _).drew
    refine start_ (n := 22) (S := fun w' => w'.cell? ⟨p, 0, none⟩ = some (.slice A xs.length c)) (ds := [21]) #[false, false, false, false, false, false, false, false, false, false, false, false, false, false, false, false, false, false, false, false, false, false] (by kernel_rfl) rfl rfl ((blk_cell hd 0).trans rfl) (fun hHeld => ?_)
    generalize w1.drew = w5 at hd hdb hds h3d hHeld ⊢
    have HD := Lib.hid hd
    have HDB := Lib.hid hdb
    have HDS := Lib.hid hds
    have HD3 := Lib.hid h3d
    clear hd hdb hds h3d
    refine pure_ (i := 0) (N := some 9) (v := ?_) (a' := ?_) #[true, false, false, false, false, false, false, false, false, false, false, false, false, false, false, false, false, false, false, false, false, false] rfl rfl (by kernel_rfl) (fun _ _ _ h => h) (Or.inl ⟨by rfl, ?_⟩) ?_ ?_
    rotate_left
    · intro w'
      go_simp
      with_reducible rfl
    rotate_left
    · simp only [Act.put, List.setIfInBounds_toArray, List.set_cons_zero, List.set_cons_succ, i64_w, i32_w]
      rfl
    refine pure_ (i := 1) (N := some 10) (v := ?_) (a' := ?_) #[true, true, false, false, false, false, false, false, false, false, false, false, false, false, false, false, false, false, false, false, false, false] rfl rfl (by kernel_rfl) (fun _ _ _ h => h) (Or.inl ⟨by rfl, ?_⟩) ?_ ?_
    rotate_left
    · intro w'
      go_simp
      with_reducible rfl
    rotate_left
    · simp only [Act.put, List.setIfInBounds_toArray, List.set_cons_zero, List.set_cons_succ, i64_w, i32_w]
      rfl
    refine pure_ (i := 2) (N := some 11) (v := ?_) (a' := ?_) #[true, true, true, false, false, false, false, false, false, false, false, false, false, false, false, false, false, false, false, false, false, false] rfl rfl (by kernel_rfl) (fun _ _ _ h => h) (Or.inl ⟨by rfl, ?_⟩) ?_ ?_
    rotate_left
    · intro w'
      go_simp
      with_reducible rfl
    rotate_left
    · simp only [Act.put, List.setIfInBounds_toArray, List.set_cons_zero, List.set_cons_succ, i64_w, i32_w]
      rfl
    refine pure_ (i := 3) (N := some 12) (v := ?_) (a' := ?_) #[true, true, true, true, false, false, false, false, false, false, false, false, false, false, false, false, false, false, false, false, false, false] rfl rfl (by kernel_rfl) (fun _ _ _ h => h) (Or.inl ⟨by rfl, ?_⟩) ?_ ?_
    rotate_left
    · intro w'
      go_simp
      with_reducible rfl
    rotate_left
    · simp only [Act.put, List.setIfInBounds_toArray, List.set_cons_zero, List.set_cons_succ, i64_w, i32_w]
      rfl
    refine pure_ (i := 5) (N := some 14) (v := ?_) (a' := ?_) #[true, true, true, true, false, true, false, false, false, false, false, false, false, false, false, false, false, false, false, false, false, false] rfl rfl (by kernel_rfl) (fun _ _ _ h => h) (Or.inl ⟨by rfl, ?_⟩) ?_ ?_
    rotate_left
    · intro w'
      go_simp
      with_reducible rfl
    rotate_left
    · simp only [Act.put, List.setIfInBounds_toArray, List.set_cons_zero, List.set_cons_succ, i64_w, i32_w]
      rfl
    refine pure_ (i := 6) (N := some 15) (v := ?_) (a' := ?_) #[true, true, true, true, false, true, true, false, false, false, false, false, false, false, false, false, false, false, false, false, false, false] rfl rfl (by kernel_rfl) (fun _ _ _ h => h) (Or.inl ⟨by rfl, ?_⟩) ?_ ?_
    rotate_left
    · intro w'
      go_simp
      with_reducible rfl
    rotate_left
    · simp only [Act.put, List.setIfInBounds_toArray, List.set_cons_zero, List.set_cons_succ, i64_w, i32_w]
      rfl
    refine pure_ (i := 7) (N := some 16) (v := ?_) (a' := ?_) #[true, true, true, true, false, true, true, true, false, false, false, false, false, false, false, false, false, false, false, false, false, false] rfl rfl (by kernel_rfl) (fun _ _ _ h => h) (Or.inl ⟨by rfl, ?_⟩) ?_ ?_
    rotate_left
    · intro w'
      go_simp
      with_reducible rfl
    rotate_left
    · simp only [Act.put, List.setIfInBounds_toArray, List.set_cons_zero, List.set_cons_succ, i64_w, i32_w]
      rfl
    refine pure_ (i := 10) (N := some 19) (v := ?_) (a' := ?_) #[true, true, true, true, false, true, true, true, false, false, true, false, false, false, false, false, false, false, false, false, false, false] rfl rfl (by kernel_rfl) (fun _ _ _ h => h) (Or.inl ⟨by rfl, ?_⟩) ?_ ?_
    rotate_left
    · intro w'
      go_simp
      with_reducible rfl
    rotate_left
    · simp only [Act.put, List.setIfInBounds_toArray, List.set_cons_zero, List.set_cons_succ, i64_w, i32_w]
      rfl
    refine pure_ (i := 11) (N := some 20) (v := ?_) (a' := ?_) #[true, true, true, true, false, true, true, true, false, false, true, true, false, false, false, false, false, false, false, false, false, false] rfl rfl (by kernel_rfl) (fun _ _ _ h => h) (Or.inl ⟨by rfl, ?_⟩) ?_ ?_
    rotate_left
    · intro w'
      go_simp
      with_reducible rfl
    rotate_left
    · simp only [Act.put, List.setIfInBounds_toArray, List.set_cons_zero, List.set_cons_succ, i64_w, i32_w]
      rfl
    refine pure_ (i := 12) (N := some 21) (v := ?_) (a' := ?_) #[true, true, true, true, false, true, true, true, false, false, true, true, true, false, false, false, false, false, false, false, false, false] rfl rfl (by kernel_rfl) (fun _ _ _ h => h) (Or.inl ⟨by rfl, ?_⟩) ?_ ?_
    rotate_left
    · intro w'
      go_simp
      with_reducible rfl
    rotate_left
    · simp only [Act.put, List.setIfInBounds_toArray, List.set_cons_zero, List.set_cons_succ, i64_w, i32_w]
      rfl
    refine pure_ (i := 16) (N := some 25) (v := ?_) (a' := ?_) #[true, true, true, true, false, true, true, true, false, false, true, true, true, false, false, false, true, false, false, false, false, false] rfl rfl (by kernel_rfl) (fun _ _ _ h => h) (Or.inl ⟨by rfl, ?_⟩) ?_ ?_
    rotate_left
    · intro w'
      go_simp
      with_reducible rfl
    rotate_left
    · simp only [Act.put, List.setIfInBounds_toArray, List.set_cons_zero, List.set_cons_succ, i64_w, i32_w]
      rfl
    refine take_ (i := 4) (N := some 13) (v := ?_) (a' := ?_) #[true, true, true, true, true, true, true, true, false, false, true, true, true, false, false, false, true, false, false, false, false, false] rfl rfl (by kernel_rfl) (fun _ _ _ h => h) (Or.inl ⟨by rfl, ?_⟩) hHeld ?_ ?_
    rotate_left
    · intro w' s0
      go_simp
      with_reducible rfl
    rotate_left
    · simp only [Act.put, List.setIfInBounds_toArray, List.set_cons_zero, List.set_cons_succ, i64_w, i32_w]
      rfl
    refine take_ (i := 8) (N := some 17) (v := ?_) (a' := ?_) #[true, true, true, true, true, true, true, true, true, false, true, true, true, false, false, false, true, false, false, false, false, false] rfl rfl (by kernel_rfl) (fun _ _ _ h => h) (Or.inl ⟨by rfl, ?_⟩) hHeld ?_ ?_
    rotate_left
    · intro w' s0
      go_simp
      with_reducible rfl
    rotate_left
    · simp only [Act.put, List.setIfInBounds_toArray, List.set_cons_zero, List.set_cons_succ, i64_w, i32_w]
      rfl
    refine pure_ (i := 9) (N := some 18) (v := ?_) (a' := ?_) #[true, true, true, true, true, true, true, true, true, true, true, true, true, false, false, false, true, false, false, false, false, false] rfl rfl (by kernel_rfl) (fun _ _ _ h => h) (Or.inl ⟨by rfl, ?_⟩) ?_ ?_
    rotate_left
    · intro w'
      go_simp
      with_reducible rfl
    rotate_left
    · simp only [Act.put, List.setIfInBounds_toArray, List.set_cons_zero, List.set_cons_succ, i64_w, i32_w]
      rfl
    refine take_ (i := 13) (N := some 22) (v := ?_) (a' := ?_) #[true, true, true, true, true, true, true, true, true, true, true, true, true, true, false, false, true, false, false, false, false, false] rfl rfl (by kernel_rfl) (fun _ _ _ h => h) (Or.inl ⟨by rfl, ?_⟩) hHeld ?_ ?_
    rotate_left
    · intro w' s0
      go_simp
      with_reducible rfl
    rotate_left
    · simp only [Act.put, List.setIfInBounds_toArray, List.set_cons_zero, List.set_cons_succ, i64_w, i32_w]
      rfl
    refine pure_ (i := 14) (N := some 23) (v := ?_) (a' := ?_) #[true, true, true, true, true, true, true, true, true, true, true, true, true, true, true, false, true, false, false, false, false, false] rfl rfl (by kernel_rfl) (fun _ _ _ h => h) (Or.inl ⟨by rfl, ?_⟩) ?_ ?_
    rotate_left
    · intro w'
      go_simp
      with_reducible rfl
    rotate_left
    · simp only [Act.put, List.setIfInBounds_toArray, List.set_cons_zero, List.set_cons_succ, i64_w, i32_w]
      rfl
    refine pure_ (i := 15) (N := some 24) (v := ?_) (a' := ?_) #[true, true, true, true, true, true, true, true, true, true, true, true, true, true, true, true, true, false, false, false, false, false] rfl rfl (by kernel_rfl) (fun _ _ _ h => h) (Or.inl ⟨by rfl, ?_⟩) ?_ ?_
    rotate_left
    · intro w'
      go_simp
      with_reducible rfl
    rotate_left
    · simp only [Act.put, List.setIfInBounds_toArray, List.set_cons_zero, List.set_cons_succ, i64_w, i32_w]
      rfl
    refine one_ (i := 17) (N := some 26) #[true, true, true, true, true, true, true, true, true, true, true, true, true, true, true, true, true, true, false, false, false, false] rfl rfl (by kernel_rfl) (by decide) (fun K hK => ?_)
    refine value_ (w1 := ?_) (v := ?_) (by rfl) rfl ?_ ?_
    rotate_left 2
    · go_simp
      constructor
      · rfl
      · rfl
    refine hK.out _ _ ((blk_cell (blk_alloc HD.out _) 0).trans rfl) (fun hHeld => ?_)
    clear hK K
    refine norm_ (a' := ?_) ?_ ?_
    rotate_left
    · show Act.put _ (some 26) _ = _
      simp only [Act.put, List.setIfInBounds_toArray, List.set_cons_zero, List.set_cons_succ, i64_w, i32_w]
      rfl
    refine one_ (i := 18) (N := some 27) #[true, true, true, true, true, true, true, true, true, true, true, true, true, true, true, true, true, true, true, false, false, false] rfl rfl (by kernel_rfl) (by decide) (fun K hK => ?_)
    refine step_append_grows (by rfl) (.tmp 24) (.tmp 26) 27 (by rfl) 3 i0 _ 1 8 Try.underlying27 hi0 hz0 hz1 hz2 (by rfl) (by decide) A xs.length xs.length (xs.map (Value.int .i64)) (by rfl) (C_nil_len HD3.out) (by simp) (C_cells (Kd.C_below HD3.out ((Below.refl _ _).alloc (Nat.le_refl _) _))) ⟨w5.heap.size, 0, none⟩ 1 1 [.int .i64 no] (by rfl) (by rfl) (World.news_of_block (cs := #[.int .i64 no]) (t := 3) (fr := (0, 0)) (heap_alloc_new _ _)) (by simp [Value.oneCell']) (by omega) (by have := HL.out; unfold maxLen; omega) (by have := HL.out; omega) ?_
    intro v2 w2 ho2 hg2
    obtain ⟨A2, c2, rfl⟩ := own_slice ho2
    have hp2 := blk_grown (blk_alloc HD.out _) hg2 (by simp)
    have F2 := blk_frozen hp2 0
    have HT2 := Lib.hid (turns_alloc HDB.out _ |>.trans (turns_none (p := p) hg2))
    have HP2 := Lib.hid hp2
    have HO2 := Lib.hid (own_weaken ho2 (base' := w5.heap.size) (by simp))
    clear hp2 ho2 hg2
    refine hK.out _ _ ((blk_cell HP2.out 0).trans rfl) (fun hHeld => ?_)
    clear hK K
    refine norm_ (a' := ?_) ?_ ?_
    rotate_left
    · show Act.put _ (some 27) _ = _
      simp only [Act.put, List.setIfInBounds_toArray, List.set_cons_zero, List.set_cons_succ, i64_w, i32_w]
      rfl
    refine pure_ (i := 19) (N := some 28) (v := ?_) (a' := ?_) #[true, true, true, true, true, true, true, true, true, true, true, true, true, true, true, true, true, true, true, true, false, false] rfl rfl (by kernel_rfl) (fun _ _ _ h => h) (Or.inl ⟨by rfl, ?_⟩) ?_ ?_
    rotate_left
    · intro w'
      go_simp
      with_reducible rfl
    rotate_left
    · simp only [Act.put, List.setIfInBounds_toArray, List.set_cons_zero, List.set_cons_succ, i64_w, i32_w]
      rfl
    refine pure_ (i := 20) (N := some 29) (v := ?_) (a' := ?_) #[true, true, true, true, true, true, true, true, true, true, true, true, true, true, true, true, true, true, true, true, true, false] rfl rfl (by kernel_rfl) (fun _ _ _ h => h) (Or.inl ⟨by rfl, ?_⟩) ?_ ?_
    rotate_left
    · intro w'
      go_simp
      with_reducible rfl
    rotate_left
    · simp only [Act.put, List.setIfInBounds_toArray, List.set_cons_zero, List.set_cons_succ, i64_w, i32_w]
      rfl
    refine last_ (i := 21) (N := none) #[true, true, true, true, true, true, true, true, true, true, true, true, true, true, true, true, true, true, true, true, true, true] rfl rfl (by kernel_rfl) (by decide) (fun K hK => ?_)
    refine skip_ (w1 := ?_) (by rfl) rfl ?_ ?_
    rotate_left
    · go_simp
      rfl
    refine hK.out _ _ ?_
    clear hK K
    refine done_ (by kernel_rfl) ?_
    have HA3 := Lib.hid (At_store (ok := ok) (xs := xs ++ [no]) (v := .slice A2 (xs.length + 1) c2) HP2.out (by have := HO2.out; simpa [nums] using this) (by simp) (fun k hk => HBS.out k (Nat.le_trans HDS.out hk)) hpb)
    have HT3 := Lib.hid (HT2.out.trans (turns_set w2 p (.slice A2 (xs.length + 1) c2)))
    clear HP2 HO2 HT2 F2 HB HD HD3 HDB HDS HSz H1 H3 HBS k0 hcut hplt hHeld
    generalize w2.setCell ⟨p, 0, none⟩ (.slice A2 (xs.length + 1) c2) = w3 at HA3 HT3 ⊢
    obtain ⟨A, c, h1, h2, h3, h4⟩ := HA3.out
    have k0 : w3.cell? ⟨p, 0, none⟩ = some (.slice A (xs ++ [no]).length c) := (blk_cell h1 0).trans rfl
    obtain ⟨g, o, rfl, hcell⟩ := head_cell h3 (by simp) h4
    have q2 : (0 : Int) < ((xs ++ [no]).length : Int) := by simp
    generalize (xs ++ [no]).length = n at k0 q2
    clear h1 h2 h3 h4
    go_wp2
    go_ret
    exact ⟨rfl, HA3.out, HT3.out⟩

theorem wrapEq (x : Int) : IntKind.i64.wrap x = wrap64 x := by rw [IntKind.wrap_i64]; unfold wrap64; omega
theorem idxOf_lt {xs : List Int} {no : Int} (h : no ∈ xs) : xs.idxOf no < xs.length := List.idxOf_lt_length_iff.2 h
theorem setCells_nil' (w : World) (g o : Nat) : w.setCells g o [] = w := rfl

set_option maxHeartbeats 2000000 in
theorem leave_calls (ok : Nat → Prop) (p : Nat) (xs : List Int) (no : Int) (w : World) (h : At 41 w ok p xs) (hpb : ¬ ok p) (hbs : ∀ k, w.heap.size ≤ k → ok k) (hl : xs.length ≤ 1000) :
    Calls Try.prog 8 #[.pointer (some ⟨p, 0, none⟩), .int .i64 no] w fun e w' => e = .returned (.bool (decide (no ∈ xs))) ∧ At 41 w' ok p (leave xs no) ∧ w.grownBy w' (some p) := by
  by_cases hm : no ∈ xs
  · have hlt := idxOf_lt hm
    have hi : idx xs no = (xs.idxOf no : Int) := idx_pos hm
    have hw : leave xs no = xs.take (xs.idxOf no) ++ xs.drop (xs.idxOf no + 1) := by unfold leave; rw [if_pos hm]
    rw [hw, decide_eq_true hm]
    generalize xs.idxOf no = i at hi hlt ⊢
    have H := Lib.hid h
    have HI := Lib.hid hi
    have HL := Lib.hid hl
    have HBS := Lib.hid hbs
    have HLt := Lib.hid hlt
    have q : ¬ ((i : Int) < 0) := by omega
    clear h hm hi hw hl hbs hlt
    go_enter Try.func8, Try.ntmps8
    go_wp2_with fail
    refine (place_calls ok p xs no w H.out).mono ?_
    rintro e w1 ⟨rfl, hb⟩
    rw [HI.out]
    obtain ⟨A, c, h1, h2, h3, h4⟩ := At_below H.out hb
    have hlt := HLt.out
    obtain ⟨i0, hi0, hz0, hz1, hz2⟩ := info_parts info_int
    have hcut := cut_to3 (P := Try.prog) 27 3 .i64 .i64 Try.underlying27 hi0 A xs.length c (i : Int) (i : Int) (by omega) (by omega) (by omega)
    rw [Int.toNat_natCast] at hcut
    have hdrop := Kd.C_drop (c := c) (m := i + 1) h3 (by omega) h2
    have htake := Kd.C_take (m := i) h3 (by omega)
    obtain ⟨g, o, rfl, _⟩ := head_cell h3 (by omega) h4
    obtain ⟨g2, hA2⟩ : ∃ a2 : Addr, (if c = i + 1 then some (⟨g, o, none⟩ : Addr) else some ⟨g, o + (i + 1), none⟩) = some a2 := by split <;> exact ⟨_, rfl⟩
    have hsz1 : (if c = i + 1 then some (⟨g, o, none⟩ : Addr) else (some (⟨g, o, none⟩ : Addr)).map (·.add ((i + 1) * (Kd.int .i64).sz))) = (if c = i + 1 then some (⟨g, o, none⟩ : Addr) else some ⟨g, o + (i + 1), none⟩) := by
      split
      · rfl
      · simp [Addr.add, Kd.int, Kd.scalar]
    rw [hsz1, hA2] at hdrop
    have hq1 : (0 : Int) ≤ (i : Int) + 1 := by omega
    have hq2 : (i : Int) + 1 ≤ (xs.length : Int) := by omega
    have hadd : IntKind.i64.wrap ((i : Int) + 1) = ((i + 1 : Nat) : Int) := by rw [wrapEq]; have := HL.out; exact wrap_id (by omega) (by omega)
    have hg := (h4 _ rfl).1.1
    have hgs : g < w1.drew.heap.size := (h4 _ rfl).1.2
    have hd := blk_drew h1
    have hdb := turns_drew (turns_below p hb)
    have hds : w.heap.size ≤ w1.drew.heap.size := hb.size
    have h3d : Kd.C (Kd.int .i64) w1.drew (some ⟨g, o, none⟩) (xs.take i).length (xs.take i) := Kd.C_below htake (Below.refl _ _).drew
    have h4d : Kd.C (Kd.int .i64) w1.drew (some g2) (xs.drop (i + 1)).length (xs.drop (i + 1)) := Kd.C_below hdrop (Below.refl _ _).drew
    have HG := Lib.hid hg
    clear hb h1 h2 h3 h4 hdrop htake hsz1 hg hlt
    by_cases hlast : i + 1 < xs.length
    · have HLast := Lib.hid hlast
      clear hlast
      go_wp2
      refine start_ (n := 19) (S := fun w' => w'.cell? ⟨p, 0, none⟩ = some (.slice (some ⟨g, o, none⟩) xs.length c)) (ds := [18]) #[false, false, false, false, false, false, false, false, false, false, false, false, false, false, false, false, false, false, false] (by kernel_rfl) rfl rfl ((blk_cell hd 0).trans rfl) (fun hHeld => ?_)
      generalize w1.drew = w5 at hd hdb hds h3d h4d hgs hHeld ⊢
      have HD := Lib.hid hd
      have HDB := Lib.hid hdb
      have HDS := Lib.hid hds
      have HD3 := Lib.hid h3d
      have HD4 := Lib.hid h4d
      have HGS := Lib.hid hgs
      clear hd hdb hds h3d h4d hgs
      refine pure_ (i := 0) (N := some 11) (v := ?_) (a' := ?_) #[true, false, false, false, false, false, false, false, false, false, false, false, false, false, false, false, false, false, false] rfl rfl (by kernel_rfl) (fun _ _ _ h => h) (Or.inl ⟨by rfl, ?_⟩) ?_ ?_
      rotate_left
      · intro w'
        go_simp
        with_reducible rfl
      rotate_left
      · simp only [Act.put, List.setIfInBounds_toArray, List.set_cons_zero, List.set_cons_succ, i64_w, i32_w]
        rfl
      refine pure_ (i := 1) (N := some 12) (v := ?_) (a' := ?_) #[true, true, false, false, false, false, false, false, false, false, false, false, false, false, false, false, false, false, false] rfl rfl (by kernel_rfl) (fun _ _ _ h => h) (Or.inl ⟨by rfl, ?_⟩) ?_ ?_
      rotate_left
      · intro w'
        go_simp
        with_reducible rfl
      rotate_left
      · simp only [Act.put, List.setIfInBounds_toArray, List.set_cons_zero, List.set_cons_succ, i64_w, i32_w]
        rfl
      refine pure_ (i := 2) (N := some 13) (v := ?_) (a' := ?_) #[true, true, true, false, false, false, false, false, false, false, false, false, false, false, false, false, false, false, false] rfl rfl (by kernel_rfl) (fun _ _ _ h => h) (Or.inl ⟨by rfl, ?_⟩) ?_ ?_
      rotate_left
      · intro w'
        go_simp
        with_reducible rfl
      rotate_left
      · simp only [Act.put, List.setIfInBounds_toArray, List.set_cons_zero, List.set_cons_succ, i64_w, i32_w]
        rfl
      refine pure_ (i := 3) (N := some 14) (v := ?_) (a' := ?_) #[true, true, true, true, false, false, false, false, false, false, false, false, false, false, false, false, false, false, false] rfl rfl (by kernel_rfl) (fun _ _ _ h => h) (Or.inl ⟨by rfl, ?_⟩) ?_ ?_
      rotate_left
      · intro w'
        go_simp
        with_reducible rfl
      rotate_left
      · simp only [Act.put, List.setIfInBounds_toArray, List.set_cons_zero, List.set_cons_succ, i64_w, i32_w]
        rfl
      refine pure_ (i := 5) (N := some 16) (v := ?_) (a' := ?_) #[true, true, true, true, false, true, false, false, false, false, false, false, false, false, false, false, false, false, false] rfl rfl (by kernel_rfl) (fun _ _ _ h => h) (Or.inl ⟨by rfl, ?_⟩) ?_ ?_
      rotate_left
      · intro w'
        go_simp
        with_reducible rfl
      rotate_left
      · simp only [Act.put, List.setIfInBounds_toArray, List.set_cons_zero, List.set_cons_succ, i64_w, i32_w]
        rfl
      refine pure_ (i := 6) (N := some 17) (v := ?_) (a' := ?_) #[true, true, true, true, false, true, true, false, false, false, false, false, false, false, false, false, false, false, false] rfl rfl (by kernel_rfl) (fun _ _ _ h => h) (Or.inl ⟨by rfl, ?_⟩) ?_ ?_
      rotate_left
      · intro w'
        go_simp
        with_reducible rfl
      rotate_left
      · simp only [Act.put, List.setIfInBounds_toArray, List.set_cons_zero, List.set_cons_succ, i64_w, i32_w]
        rfl
      refine pure_ (i := 8) (N := some 19) (v := ?_) (a' := ?_) #[true, true, true, true, false, true, true, false, true, false, false, false, false, false, false, false, false, false, false] rfl rfl (by kernel_rfl) (fun _ _ _ h => h) (Or.inl ⟨by rfl, ?_⟩) ?_ ?_
      rotate_left
      · intro w'
        go_simp
        with_reducible rfl
      rotate_left
      · simp only [Act.put, List.setIfInBounds_toArray, List.set_cons_zero, List.set_cons_succ, i64_w, i32_w]
        rfl
      refine pure_ (i := 9) (N := some 20) (v := ?_) (a' := ?_) #[true, true, true, true, false, true, true, false, true, true, false, false, false, false, false, false, false, false, false] rfl rfl (by kernel_rfl) (fun _ _ _ h => h) (Or.inl ⟨by rfl, ?_⟩) ?_ ?_
      rotate_left
      · intro w'
        go_simp
        with_reducible rfl
      rotate_left
      · simp only [Act.put, List.setIfInBounds_toArray, List.set_cons_zero, List.set_cons_succ, i64_w, i32_w]
        rfl
      refine pure_ (i := 10) (N := some 21) (v := ?_) (a' := ?_) #[true, true, true, true, false, true, true, false, true, true, true, false, false, false, false, false, false, false, false] rfl rfl (by kernel_rfl) (fun _ _ _ h => h) (Or.inl ⟨by rfl, ?_⟩) ?_ ?_
      rotate_left
      · intro w'
        go_simp
        with_reducible rfl
      rotate_left
      · simp only [Act.put, List.setIfInBounds_toArray, List.set_cons_zero, List.set_cons_succ, i64_w, i32_w]
        rfl
      refine pure_ (i := 12) (N := some 23) (v := ?_) (a' := ?_) #[true, true, true, true, false, true, true, false, true, true, true, false, true, false, false, false, false, false, false] rfl rfl (by kernel_rfl) (fun _ _ _ h => h) (Or.inl ⟨by rfl, ?_⟩) ?_ ?_
      rotate_left
      · intro w'
        go_simp
        with_reducible rfl
      rotate_left
      · simp only [Act.put, List.setIfInBounds_toArray, List.set_cons_zero, List.set_cons_succ, i64_w, i32_w]
        rfl
      refine pure_ (i := 13) (N := some 24) (v := ?_) (a' := ?_) #[true, true, true, true, false, true, true, false, true, true, true, false, true, true, false, false, false, false, false] rfl rfl (by kernel_rfl) (fun _ _ _ h => h) (Or.inl ⟨by rfl, ?_⟩) ?_ ?_
      rotate_left
      · intro w'
        go_simp
        with_reducible rfl
      rotate_left
      · simp only [Act.put, List.setIfInBounds_toArray, List.set_cons_zero, List.set_cons_succ, i64_w, i32_w]
        rfl
      refine take_ (i := 4) (N := some 15) (v := ?_) (a' := ?_) #[true, true, true, true, true, true, true, false, true, true, true, false, true, true, false, false, false, false, false] rfl rfl (by kernel_rfl) (fun _ _ _ h => h) (Or.inl ⟨by rfl, ?_⟩) hHeld ?_ ?_
      rotate_left
      · intro w' s0
        go_simp
        with_reducible rfl
      rotate_left
      · simp only [Act.put, List.setIfInBounds_toArray, List.set_cons_zero, List.set_cons_succ, i64_w, i32_w]
        rfl
      refine pure_ (i := 7) (N := some 18) (v := ?_) (a' := ?_) #[true, true, true, true, true, true, true, true, true, true, true, false, true, true, false, false, false, false, false] rfl rfl (by kernel_rfl) (fun _ _ _ h => h) (Or.inl ⟨by rfl, ?_⟩) ?_ ?_
      rotate_left
      · intro w'
        go_simp
        with_reducible rfl
      rotate_left
      · simp only [Act.put, List.setIfInBounds_toArray, List.set_cons_zero, List.set_cons_succ, i64_w, i32_w]
        rfl
      refine take_ (i := 11) (N := some 22) (v := ?_) (a' := ?_) #[true, true, true, true, true, true, true, true, true, true, true, true, true, true, false, false, false, false, false] rfl rfl (by kernel_rfl) (fun _ _ _ h => h) (Or.inl ⟨by rfl, ?_⟩) hHeld ?_ ?_
      rotate_left
      · intro w' s0
        go_simp
        with_reducible rfl
      rotate_left
      · simp only [Act.put, List.setIfInBounds_toArray, List.set_cons_zero, List.set_cons_succ, i64_w, i32_w]
        rfl
      refine pure_ (i := 14) (N := some 25) (v := ?_) (a' := ?_) #[true, true, true, true, true, true, true, true, true, true, true, true, true, true, true, false, false, false, false] rfl rfl (by kernel_rfl) (fun _ _ _ h => h) (Or.inl ⟨by rfl, ?_⟩) ?_ ?_
      rotate_left
      · intro w'
        go_simp
        with_reducible rfl
      rotate_left
      · simp only [Act.put, List.setIfInBounds_toArray, List.set_cons_zero, List.set_cons_succ, i64_w, i32_w]
        rfl
      refine one_ (i := 15) (N := some 26) #[true, true, true, true, true, true, true, true, true, true, true, true, true, true, true, true, false, false, false] rfl rfl (by kernel_rfl) (by decide) (fun K hK => ?_)
      refine step_append_grows (by rfl) (.tmp 18) (.tmp 25) 27 (by rfl) 3 i0 _ 1 8 Try.underlying27 hi0 hz0 hz1 hz2 (by rfl) (by decide) (some ⟨g, o, none⟩) i i ((xs.take i).map (Value.int .i64)) (by rfl) (fun h => by cases h) (by have := HLt.out; simp; omega) (C_cells HD3.out) g2 (xs.length - (i + 1)) (c - (i + 1)) ((xs.drop (i + 1)).map (Value.int .i64)) (by rfl) (by simp) (fun j u hu => C_cells HD4.out g2 rfl j u hu) (by intro u hu; obtain ⟨x, _, rfl⟩ := List.mem_map.1 hu; rfl) (by have := HLast.out; omega) (by have := HL.out; have := HLast.out; unfold maxLen; omega) (by have := HL.out; have := HLast.out; omega) ?_
      intro v2 w2 ho2 hg2
      obtain ⟨A2, c2, rfl⟩ := own_slice ho2
      have hp2 := blk_grown HD.out hg2 (by simp)
      have F2 := blk_frozen hp2 0
      have HT2 := Lib.hid (HDB.out.trans (turns_none (p := p) hg2))
      have HP2 := Lib.hid hp2
      have HO2 := Lib.hid ho2
      clear hp2 ho2 hg2
      refine hK.out _ _ ((blk_cell HP2.out 0).trans rfl) (fun hHeld => ?_)
      clear hK K
      refine norm_ (a' := ?_) ?_ ?_
      rotate_left
      · show Act.put _ (some 26) _ = _
        simp only [Act.put, List.setIfInBounds_toArray, List.set_cons_zero, List.set_cons_succ, i64_w, i32_w]
        rfl
      refine pure_ (i := 16) (N := some 27) (v := ?_) (a' := ?_) #[true, true, true, true, true, true, true, true, true, true, true, true, true, true, true, true, true, false, false] rfl rfl (by kernel_rfl) (fun _ _ _ h => h) (Or.inl ⟨by rfl, ?_⟩) ?_ ?_
      rotate_left
      · intro w'
        go_simp
        with_reducible rfl
      rotate_left
      · simp only [Act.put, List.setIfInBounds_toArray, List.set_cons_zero, List.set_cons_succ, i64_w, i32_w]
        rfl
      refine pure_ (i := 17) (N := some 28) (v := ?_) (a' := ?_) #[true, true, true, true, true, true, true, true, true, true, true, true, true, true, true, true, true, true, false] rfl rfl (by kernel_rfl) (fun _ _ _ h => h) (Or.inl ⟨by rfl, ?_⟩) ?_ ?_
      rotate_left
      · intro w'
        go_simp
        with_reducible rfl
      rotate_left
      · simp only [Act.put, List.setIfInBounds_toArray, List.set_cons_zero, List.set_cons_succ, i64_w, i32_w]
        rfl
      refine last_ (i := 18) (N := none) #[true, true, true, true, true, true, true, true, true, true, true, true, true, true, true, true, true, true, true] rfl rfl (by kernel_rfl) (by decide) (fun K hK => ?_)
      refine skip_ (w1 := ?_) (by rfl) rfl ?_ ?_
      rotate_left
      · go_simp
        rfl
      refine hK.out _ _ ?_
      clear hK K
      refine done_ (by kernel_rfl) ?_
      have HA3 := Lib.hid (At_store (ok := ok) (xs := xs.take i ++ xs.drop (i + 1)) HP2.out (by have := HO2.out; simpa [nums] using this) (by have := HLt.out; simp; omega) (fun k hk => HBS.out k (by have := HDS.out; omega)) hpb)
      have HT3 := Lib.hid (HT2.out.trans (turns_set w2 p (.slice A2 (i + (xs.length - (i + 1))) c2)))
      go_wp2
      go_ret
      exact ⟨rfl, HA3.out, HT3.out⟩
    · have hlast2 : i + 1 = xs.length := by have := HLt.out; omega
      have HLast := Lib.hid hlast2
      clear hlast hlast2
      go_wp2
      refine start_ (n := 19) (S := fun w' => w'.cell? ⟨p, 0, none⟩ = some (.slice (some ⟨g, o, none⟩) xs.length c)) (ds := [18]) #[false, false, false, false, false, false, false, false, false, false, false, false, false, false, false, false, false, false, false] (by kernel_rfl) rfl rfl ((blk_cell hd 0).trans rfl) (fun hHeld => ?_)
      generalize w1.drew = w5 at hd hdb hds h3d h4d hgs hHeld ⊢
      have HD := Lib.hid hd
      have HDB := Lib.hid hdb
      have HDS := Lib.hid hds
      have HD3 := Lib.hid h3d
      have HD4 := Lib.hid h4d
      have HGS := Lib.hid hgs
      clear hd hdb hds h3d h4d hgs
      refine pure_ (i := 0) (N := some 11) (v := ?_) (a' := ?_) #[true, false, false, false, false, false, false, false, false, false, false, false, false, false, false, false, false, false, false] rfl rfl (by kernel_rfl) (fun _ _ _ h => h) (Or.inl ⟨by rfl, ?_⟩) ?_ ?_
      rotate_left
      · intro w'
        go_simp
        with_reducible rfl
      rotate_left
      · simp only [Act.put, List.setIfInBounds_toArray, List.set_cons_zero, List.set_cons_succ, i64_w, i32_w]
        rfl
      refine pure_ (i := 1) (N := some 12) (v := ?_) (a' := ?_) #[true, true, false, false, false, false, false, false, false, false, false, false, false, false, false, false, false, false, false] rfl rfl (by kernel_rfl) (fun _ _ _ h => h) (Or.inl ⟨by rfl, ?_⟩) ?_ ?_
      rotate_left
      · intro w'
        go_simp
        with_reducible rfl
      rotate_left
      · simp only [Act.put, List.setIfInBounds_toArray, List.set_cons_zero, List.set_cons_succ, i64_w, i32_w]
        rfl
      refine pure_ (i := 2) (N := some 13) (v := ?_) (a' := ?_) #[true, true, true, false, false, false, false, false, false, false, false, false, false, false, false, false, false, false, false] rfl rfl (by kernel_rfl) (fun _ _ _ h => h) (Or.inl ⟨by rfl, ?_⟩) ?_ ?_
      rotate_left
      · intro w'
        go_simp
        with_reducible rfl
      rotate_left
      · simp only [Act.put, List.setIfInBounds_toArray, List.set_cons_zero, List.set_cons_succ, i64_w, i32_w]
        rfl
      refine pure_ (i := 3) (N := some 14) (v := ?_) (a' := ?_) #[true, true, true, true, false, false, false, false, false, false, false, false, false, false, false, false, false, false, false] rfl rfl (by kernel_rfl) (fun _ _ _ h => h) (Or.inl ⟨by rfl, ?_⟩) ?_ ?_
      rotate_left
      · intro w'
        go_simp
        with_reducible rfl
      rotate_left
      · simp only [Act.put, List.setIfInBounds_toArray, List.set_cons_zero, List.set_cons_succ, i64_w, i32_w]
        rfl
      refine pure_ (i := 5) (N := some 16) (v := ?_) (a' := ?_) #[true, true, true, true, false, true, false, false, false, false, false, false, false, false, false, false, false, false, false] rfl rfl (by kernel_rfl) (fun _ _ _ h => h) (Or.inl ⟨by rfl, ?_⟩) ?_ ?_
      rotate_left
      · intro w'
        go_simp
        with_reducible rfl
      rotate_left
      · simp only [Act.put, List.setIfInBounds_toArray, List.set_cons_zero, List.set_cons_succ, i64_w, i32_w]
        rfl
      refine pure_ (i := 6) (N := some 17) (v := ?_) (a' := ?_) #[true, true, true, true, false, true, true, false, false, false, false, false, false, false, false, false, false, false, false] rfl rfl (by kernel_rfl) (fun _ _ _ h => h) (Or.inl ⟨by rfl, ?_⟩) ?_ ?_
      rotate_left
      · intro w'
        go_simp
        with_reducible rfl
      rotate_left
      · simp only [Act.put, List.setIfInBounds_toArray, List.set_cons_zero, List.set_cons_succ, i64_w, i32_w]
        rfl
      refine pure_ (i := 8) (N := some 19) (v := ?_) (a' := ?_) #[true, true, true, true, false, true, true, false, true, false, false, false, false, false, false, false, false, false, false] rfl rfl (by kernel_rfl) (fun _ _ _ h => h) (Or.inl ⟨by rfl, ?_⟩) ?_ ?_
      rotate_left
      · intro w'
        go_simp
        with_reducible rfl
      rotate_left
      · simp only [Act.put, List.setIfInBounds_toArray, List.set_cons_zero, List.set_cons_succ, i64_w, i32_w]
        rfl
      refine pure_ (i := 9) (N := some 20) (v := ?_) (a' := ?_) #[true, true, true, true, false, true, true, false, true, true, false, false, false, false, false, false, false, false, false] rfl rfl (by kernel_rfl) (fun _ _ _ h => h) (Or.inl ⟨by rfl, ?_⟩) ?_ ?_
      rotate_left
      · intro w'
        go_simp
        with_reducible rfl
      rotate_left
      · simp only [Act.put, List.setIfInBounds_toArray, List.set_cons_zero, List.set_cons_succ, i64_w, i32_w]
        rfl
      refine pure_ (i := 10) (N := some 21) (v := ?_) (a' := ?_) #[true, true, true, true, false, true, true, false, true, true, true, false, false, false, false, false, false, false, false] rfl rfl (by kernel_rfl) (fun _ _ _ h => h) (Or.inl ⟨by rfl, ?_⟩) ?_ ?_
      rotate_left
      · intro w'
        go_simp
        with_reducible rfl
      rotate_left
      · simp only [Act.put, List.setIfInBounds_toArray, List.set_cons_zero, List.set_cons_succ, i64_w, i32_w]
        rfl
      refine pure_ (i := 12) (N := some 23) (v := ?_) (a' := ?_) #[true, true, true, true, false, true, true, false, true, true, true, false, true, false, false, false, false, false, false] rfl rfl (by kernel_rfl) (fun _ _ _ h => h) (Or.inl ⟨by rfl, ?_⟩) ?_ ?_
      rotate_left
      · intro w'
        go_simp
        with_reducible rfl
      rotate_left
      · simp only [Act.put, List.setIfInBounds_toArray, List.set_cons_zero, List.set_cons_succ, i64_w, i32_w]
        rfl
      refine pure_ (i := 13) (N := some 24) (v := ?_) (a' := ?_) #[true, true, true, true, false, true, true, false, true, true, true, false, true, true, false, false, false, false, false] rfl rfl (by kernel_rfl) (fun _ _ _ h => h) (Or.inl ⟨by rfl, ?_⟩) ?_ ?_
      rotate_left
      · intro w'
        go_simp
        with_reducible rfl
      rotate_left
      · simp only [Act.put, List.setIfInBounds_toArray, List.set_cons_zero, List.set_cons_succ, i64_w, i32_w]
        rfl
      refine take_ (i := 4) (N := some 15) (v := ?_) (a' := ?_) #[true, true, true, true, true, true, true, false, true, true, true, false, true, true, false, false, false, false, false] rfl rfl (by kernel_rfl) (fun _ _ _ h => h) (Or.inl ⟨by rfl, ?_⟩) hHeld ?_ ?_
      rotate_left
      · intro w' s0
        go_simp
        with_reducible rfl
      rotate_left
      · simp only [Act.put, List.setIfInBounds_toArray, List.set_cons_zero, List.set_cons_succ, i64_w, i32_w]
        rfl
      refine pure_ (i := 7) (N := some 18) (v := ?_) (a' := ?_) #[true, true, true, true, true, true, true, true, true, true, true, false, true, true, false, false, false, false, false] rfl rfl (by kernel_rfl) (fun _ _ _ h => h) (Or.inl ⟨by rfl, ?_⟩) ?_ ?_
      rotate_left
      · intro w'
        go_simp
        with_reducible rfl
      rotate_left
      · simp only [Act.put, List.setIfInBounds_toArray, List.set_cons_zero, List.set_cons_succ, i64_w, i32_w]
        rfl
      refine take_ (i := 11) (N := some 22) (v := ?_) (a' := ?_) #[true, true, true, true, true, true, true, true, true, true, true, true, true, true, false, false, false, false, false] rfl rfl (by kernel_rfl) (fun _ _ _ h => h) (Or.inl ⟨by rfl, ?_⟩) hHeld ?_ ?_
      rotate_left
      · intro w' s0
        go_simp
        with_reducible rfl
      rotate_left
      · simp only [Act.put, List.setIfInBounds_toArray, List.set_cons_zero, List.set_cons_succ, i64_w, i32_w]
        rfl
      refine pure_ (i := 14) (N := some 25) (v := ?_) (a' := ?_) #[true, true, true, true, true, true, true, true, true, true, true, true, true, true, true, false, false, false, false] rfl rfl (by kernel_rfl) (fun _ _ _ h => h) (Or.inl ⟨by rfl, ?_⟩) ?_ ?_
      rotate_left
      · intro w'
        go_simp
        with_reducible rfl
      rotate_left
      · simp only [Act.put, List.setIfInBounds_toArray, List.set_cons_zero, List.set_cons_succ, i64_w, i32_w]
        rfl
      refine one_ (i := 15) (N := some 26) #[true, true, true, true, true, true, true, true, true, true, true, true, true, true, true, true, false, false, false] rfl rfl (by kernel_rfl) (by decide) (fun K hK => ?_)
      refine step_append_room (by rfl) (.tmp 18) (.tmp 25) 27 (by rfl) 3 i0 1 Try.underlying27 hi0 hz1 g o i i (by rfl) g2 (xs.length - (i + 1)) (c - (i + 1)) [] (by rfl) (by have := HLast.out; simp; omega) (by simp) (by simp) (by have := HLast.out; omega) (by simp) ?_
      rw [setCells_nil']
      have F2 := blk_frozen HD.out 0
      refine hK.out _ _ ((blk_cell HD.out 0).trans rfl) (fun hHeld => ?_)
      clear hK K
      refine norm_ (a' := ?_) ?_ ?_
      rotate_left
      · show Act.put _ (some 26) _ = _
        simp only [Act.put, List.setIfInBounds_toArray, List.set_cons_zero, List.set_cons_succ, i64_w, i32_w]
        rfl
      refine pure_ (i := 16) (N := some 27) (v := ?_) (a' := ?_) #[true, true, true, true, true, true, true, true, true, true, true, true, true, true, true, true, true, false, false] rfl rfl (by kernel_rfl) (fun _ _ _ h => h) (Or.inl ⟨by rfl, ?_⟩) ?_ ?_
      rotate_left
      · intro w'
        go_simp
        with_reducible rfl
      rotate_left
      · simp only [Act.put, List.setIfInBounds_toArray, List.set_cons_zero, List.set_cons_succ, i64_w, i32_w]
        rfl
      refine pure_ (i := 17) (N := some 28) (v := ?_) (a' := ?_) #[true, true, true, true, true, true, true, true, true, true, true, true, true, true, true, true, true, true, false] rfl rfl (by kernel_rfl) (fun _ _ _ h => h) (Or.inl ⟨by rfl, ?_⟩) ?_ ?_
      rotate_left
      · intro w'
        go_simp
        with_reducible rfl
      rotate_left
      · simp only [Act.put, List.setIfInBounds_toArray, List.set_cons_zero, List.set_cons_succ, i64_w, i32_w]
        rfl
      refine last_ (i := 18) (N := none) #[true, true, true, true, true, true, true, true, true, true, true, true, true, true, true, true, true, true, true] rfl rfl (by kernel_rfl) (by decide) (fun K hK => ?_)
      refine skip_ (w1 := ?_) (by rfl) rfl ?_ ?_
      rotate_left
      · go_simp
        rfl
      refine hK.out _ _ ?_
      clear hK K
      refine done_ (by kernel_rfl) ?_
      have HA3 := Lib.hid (At_store_C (ok := ok) (ys := xs.take i ++ xs.drop (i + 1)) (n := i + (xs.length - (i + 1))) (c := i) HD.out (by rw [List.drop_of_length_le (by have := HLast.out; omega), List.append_nil]; exact HD3.out) (by have := HLast.out; simp; omega) (fun ad hA => by injection hA with hA; subst hA; exact ⟨⟨HG.out, HGS.out⟩, rfl⟩) hpb (by have := HLt.out; simp; omega))
      have HT3 := Lib.hid (HDB.out.trans (turns_set w5 p (.slice (some ⟨g, o, none⟩) (i + (xs.length - (i + 1))) i)))
      go_wp2
      go_ret
      exact ⟨rfl, HA3.out, HT3.out⟩
  · have hi : idx xs no = -1 := idx_neg hm
    have hw : leave xs no = xs := by unfold leave; rw [if_neg hm]
    rw [hw, decide_eq_false hm]
    have H := Lib.hid h
    have HI := Lib.hid hi
    clear h hm hi hw hl hbs
    go_enter Try.func8, Try.ntmps8
    go_wp2_with fail
    refine (place_calls ok p xs no w H.out).mono ?_
    rintro e w1 ⟨rfl, hb⟩
    rw [HI.out]
    have HA := Lib.hid (At_below H.out hb)
    have HB := Lib.hid (turns_below p hb)
    clear hb
    go_wp2
    go_ret
    exact ⟨rfl, HA.out, HB.out⟩

end Go.Proofs.Yteecfeonjlhilaa.Q
