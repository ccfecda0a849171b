/- The queues of chapter 15: contracts by hand of their methods. -/
import Derived.Test.YteecfeonjlhilaaPAllx0
import Derived.Test.YteecfeonjlhilaaBlocks
import Derived.Outline
import Derived.BigRegion
import Derived.BigQuiet
import Derived.Deep.RegionHeld3
import Derived.Deep.RegionLaw
import Derived.Deep.RegionLawGrows
namespace Go.Proofs.Yteecfeonjlhilaa.Q
open Go.RowKit Go.Proofs.YteecfeonjlhilaaW.PrintWords Go.Proofs.YteecfeonjlhilaaW.PrintLast Go.Proofs.YteecfeonjlhilaaW.PrintMore Go.Proofs.Yteecfeonjlhilaa.Math
set_option linter.unusedVariables false
set_option linter.unusedSimpArgs false

/-- Where a number stands first; -1: nowhere. -/
def idx (xs : List Int) (no : Int) : Int := if no ∈ xs then (xs.idxOf no : Int) else -1

theorem idx_found {xs : List Int} {no : Int} {k : Nat} (h : k < xs.length) (hn : no ∉ xs.take k) (he : rd xs (k : Int) = no) : idx xs no = (k : Int) := by
  have hm : no ∈ xs := he ▸ rd_mem h
  unfold idx
  rw [if_pos hm]
  have hd : xs = xs.take k ++ (rd xs (k : Int) :: xs.drop (k + 1)) := by
    rw [← rd_drop h, List.take_append_drop]
  have hl : (xs.take k).length = k := by rw [List.length_take]; omega
  have : xs.idxOf no = k := by
    rw [hd, List.idxOf_append, if_neg hn, hl, he, List.idxOf_cons_self]
    omega
  rw [this]
theorem idx_none {xs : List Int} {no : Int} (hn : no ∉ xs.take xs.length) : idx xs no = -1 := by
  rw [List.take_length] at hn
  unfold idx
  rw [if_neg hn]
theorem idx_step {xs : List Int} {no : Int} {k : Nat} (h : k < xs.length) (hn : no ∉ xs.take k) (he : ¬ rd xs (k : Int) = no) : no ∉ xs.take (k + 1) := by
  rw [rd_take_succ h, List.mem_append]
  rintro (h1 | h1)
  · exact hn h1
  · exact he (List.mem_singleton.1 h1).symm

/-- A queue's block: its row lies in a block that is ok. -/
def At (T : TypeId) (w : World) (ok : Nat → Prop) (p : Nat) (xs : List Int) : Prop :=
  ∃ A c, w.heap[p]? = some (.cells #[.slice A xs.length c] T (0, 0)) ∧ xs.length ≤ c ∧ Kd.C (Kd.int .i64) w A xs.length xs ∧ ∀ ad, A = some ad → (ok ad.block ∧ ad.block < w.heap.size) ∧ ad = ⟨ad.block, ad.off, none⟩

theorem At_below {T : TypeId} {w w1 : World} {ok : Nat → Prop} {p : Nat} {xs : List Int} (h : At T w ok p xs) (hb : Below w.heap.size w w1) : At T w1 ok p xs := by
  obtain ⟨A, c, h1, h2, h3, h4⟩ := h
  exact ⟨A, c, block_below h1 hb, h2, Kd.C_below h3 hb, fun ad hA => ⟨⟨(h4 ad hA).1.1, Nat.lt_of_lt_of_le (h4 ad hA).1.2 hb.size⟩, (h4 ad hA).2⟩⟩

theorem C_grown {w w1 : World} {A : Option Addr} {xs : List Int} {row : Option Nat} (h : Kd.C (Kd.int .i64) w A xs.length xs) (hg : w.grownBy w1 row) (hp : ∀ ad, A = some ad → some ad.block ≠ row) : Kd.C (Kd.int .i64) w1 A xs.length xs := by
  have hn := h.2.1
  refine Kd.C_of_reads (d := (0 : Int)) ⟨rfl, hn, fun hpos => ?_⟩
  obtain ⟨ad, rfl, _⟩ := Kd.at_int h 0 (by omega) (by omega)
  refine ⟨ad, rfl, fun i hi => ?_⟩
  obtain ⟨ad', hA, hc⟩ := Kd.at_int h (i : Int) (by omega) (by omega)
  injection hA with hA
  subst hA
  rw [Int.toNat_natCast] at hc
  have hb : (ad.add i).block = ad.block := by unfold Addr.add; split <;> rfl
  have h2 := cell_grown hg hc (by rw [hb]; exact hp ad rfl)
  rw [h2]
  simp [rd]

/-- Another block was turned. -/
theorem At_grown {T : TypeId} {w w1 : World} {ok : Nat → Prop} {p : Nat} {row : Option Nat} {xs : List Int} (h : At T w ok p xs) (hg : w.grownBy w1 row) (hpq : some p ≠ row) (hq : ∀ k, ok k → some k ≠ row) : At T w1 ok p xs := by
  obtain ⟨A, c, h1, h2, h3, h4⟩ := h
  refine ⟨A, c, ?_, h2, C_grown h3 hg (fun ad hA => hq _ (h4 ad hA).1.1), fun ad hA => ⟨⟨(h4 ad hA).1.1, Nat.lt_of_lt_of_le (h4 ad hA).1.2 hg.size⟩, (h4 ad hA).2⟩⟩
  exact (hg.block p (blk_lt h1) hpq).trans h1
theorem At_ok {T : TypeId} {w : World} {ok ok' : Nat → Prop} {p : Nat} {xs : List Int} (h : At T w ok p xs) (hk : ∀ k, ok k → k < w.heap.size → ok' k) : At T w ok' p xs := by
  obtain ⟨A, c, h1, h2, h3, h4⟩ := h
  exact ⟨A, c, h1, h2, h3, fun ad hA => ⟨⟨hk _ (h4 ad hA).1.1 (h4 ad hA).1.2, (h4 ad hA).1.2⟩, (h4 ad hA).2⟩⟩

set_option maxHeartbeats 400000 in
theorem eq_calls (x no : Int) (b : Nat) (w : World) (hc : w.cell? ⟨b, 0, none⟩ = some (.int .i64 no)) :
    Calls Try.prog 20 #[.int .i64 x, .pointer (some ⟨b, 0, none⟩)] w fun e w' => e = .returned (.bool (x == no)) ∧ w = w' := by
  go_enter Try.func20, Try.ntmps20
  go_wp2
  go_ret
  exact ⟨rfl, rfl⟩

set_option maxHeartbeats 1000000 in
theorem index_calls (A : Option Addr) (c : Nat) (xs : List Int) (no : Int) (b : Nat) (w : World) (hc : w.cell? ⟨b, 0, none⟩ = some (.int .i64 no)) (h : Kd.C (Kd.int .i64) w A xs.length xs) (hcap : xs.length ≤ c) :
    Calls Try.prog 19 #[.slice A xs.length c, .func (.func 20) #[] #[.pointer (some ⟨b, 0, none⟩)]] w fun e w' => e = .returned (.int .i64 (idx xs no)) ∧ w = w' := by
  have hn := h.2.1
  have H := Lib.hid h
  have HC := Lib.hid hc
  have eg : ∀ args w, (callFunc 20 args).run Try.prog w = .ok (.enter 20 args) w := fun args w => enters_ Try.func20 (by kernel_rfl) rfl args w
  clear h hc hcap
  go_enter Try.func19, Try.ntmps19
  go_wp2
  go_loop [5, 8] (fun _ i => ∃ k : Nat, k ≤ xs.length ∧ i = .int .i64 k ∧ no ∉ xs.take k) (fun _ i => xs.length - (intOf i).toNat)
  case atStart => exact ⟨0, Nat.zero_le _, rfl, by simp⟩
  case round =>
    obtain ⟨k, hk, rfl, hno⟩ := hrel
    have HNo := Lib.hid hno
    clear hno
    by_cases hlt : k < xs.length
    · obtain ⟨ad, rfl, hcell⟩ := Kd.at_int H.out (k : Int) (by omega) (by omega)
      rw [Int.toNat_natCast] at hcell
      have q : (k : Int) < (xs.length : Int) := by omega
      by_cases he : rd xs (k : Int) = no
      · have hb : (rd xs (k : Int) == no) = true := beq_iff_eq.2 he
        have hi := idx_found hlt HNo.out he
        have HI := Lib.hid hi
        clear hi he
        go_wp2_with fail
        refine (eq_calls _ no b _ HC.out).mono ?_
        rintro e w' ⟨rfl, rfl⟩
        go_wp2
        go_ret
        exact ⟨by rw [HI.out]; rfl, rfl⟩
      · have hb : (rd xs (k : Int) == no) = false := beq_eq_false_iff_ne.2 he
        have HS := Lib.hid (idx_step hlt HNo.out he)
        clear he
        go_wp2_with fail
        refine (eq_calls _ no b _ HC.out).mono ?_
        rintro e w' ⟨rfl, rfl⟩
        go_wp2
        go_round
        case rel => exact ⟨k + 1, by omega, by go_num, HS.out⟩
        case measure => simp [intOf]; omega
    · have hk2 : k = xs.length := by omega
      subst hk2
      have HI := Lib.hid (idx_none HNo.out)
      go_wp2
      go_ret
      exact ⟨by rw [HI.out]; rfl, rfl⟩

set_option maxHeartbeats 1000000 in
theorem place_calls (ok : Nat → Prop) (p : Nat) (xs : List Int) (no : Int) (w : World) (h : At 41 w ok p xs) :
    Calls Try.prog 16 #[.pointer (some ⟨p, 0, none⟩), .int .i64 no] w fun e w' => e = .returned (.int .i64 (idx xs no)) ∧ Below w.heap.size w w' := by
  obtain ⟨A, c, h1, h2, h3, h4⟩ := h
  have hlt := blk_lt h1
  have k0 : w.cell? ⟨p, 0, none⟩ = some (.slice A xs.length c) := (blk_cell h1 0).trans rfl
  have H3 := Lib.hid h3
  have H2 := Lib.hid h2
  clear h1 h2 h3 h4
  go_enter Try.func16, Try.ntmps16
  go_wp2_with (go_at_call 19; refine (index_calls A c xs no _ _ (by simp) (Kd.C_below H3.out (below_alloc (Below.refl _ _) _)) H2.out).mono ?_; rintro e w' ⟨rfl, rfl⟩)
  go_ret
  exact ⟨rfl, below_alloc (Below.refl _ _) _⟩

end Go.Proofs.Yteecfeonjlhilaa.Q
