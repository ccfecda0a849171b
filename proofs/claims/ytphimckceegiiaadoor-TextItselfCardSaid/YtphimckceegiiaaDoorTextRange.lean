/- Functions of text that range over a string, by hand: Len, Cut, runes. -/
import Derived.Test.YtphimckceegiiaaDoorUtf
import Derived.Test.YtphimckceegiiaaDoorBlocks
import Derived.Lib.OthersKept
import Derived.Laws.DeepStrings4
import Derived.Outline
namespace Go.Proofs.YtphimckceegiiaaDoor.Text
open Go.RowKit Go.Proofs.YtphimckceegiiaaDoorW.PrintWords Go.Proofs.YtphimckceegiiaaDoorW.PrintLast Go.Proofs.YtphimckceegiiaaDoorW.PrintMore Go.Proofs.YtphimckceegiiaaDoor.Math Go.Proofs.YtphimckceegiiaaDoor.Runes
set_option linter.unusedVariables false
set_option linter.unusedSimpArgs false

/-- The world of a range over a string: an iterator's block of the call's own. -/
structure It (w wr : World) (N : Nat) (s : ByteArray) (p : Nat) : Prop where
  it : wr.heap[N]? = some (.stringIter s p)
  bw : Below w.heap.size w wr
  n0 : w.heap.size ≤ N
section
variable {w wr w1 : World} {N p : Nat} {s : ByteArray}
theorem It.start (w wr : World) (hb : Below w.heap.size w wr) (s : ByteArray) : It w (wr.iter s 0) wr.heap.size s 0 := ⟨World.iter_heap wr s 0, below_alloc hb _, hb.size⟩
theorem It.step (h : It w wr N s p) (q : Nat) : It w (wr.iterAt N s q) N s q := ⟨Lib.iterAt_heap wr N s p q h.it, Lib.below_iterAt h.bw h.n0 s q, h.n0⟩
theorem It.next (h : It w wr N s p) (hb : Below wr.heap.size wr w1) : It w w1 N s p := ⟨block_below h.it hb, below_step h.bw hb, h.n0⟩
theorem It.pos (h : It w wr N s p) : wr.iterPos N = p := by simp [World.iterPos, h.it]
theorem It.more {P : Program} (h : It w wr N s p) (hp : p < s.size) (ty : TypeId) : (Instr.next (.pointer (some ⟨N, 0, none⟩)) true ty).run P wr = .ok (.tuple #[.bool true, .int .i64 p, .int .i32 (rn s p)]) (wr.iterAt N s (p + wd s p)) := Lib.run_next_any_at wr N s p ty h.it hp
theorem It.done {P : Program} (h : It w wr N s p) (hp : ¬ p < s.size) (ty : TypeId) : (Instr.next (.pointer (some ⟨N, 0, none⟩)) true ty).run P wr = .ok (.tuple #[.bool false]) wr := Lib.run_next_end_at wr N s p ty h.it hp
end

theorem R_iterAt {α : Type} {d : Kd α} {e : TypeId} {wr : World} {N base q : Nat} {s : ByteArray} {ok : Nat → Prop} {v : Value} {xs : List α} (h : d.R e wr base ok v xs) (hN : N < base) : d.R e (wr.iterAt N s q) base ok v xs :=
  Kd.R_mono (Kd.R_step (Kd.R_bound h) (fun k hk _ => Lib.iterAt_other wr N k s q (by have := hk.2.1; omega))) (fun _ hk => hk.1)

set_option maxHeartbeats 1000000 in
theorem len_calls (s : ByteArray) (w : World) (hs : s.size ≤ 1000000) :
    Calls Tryd.prog 19 #[.string s] w fun e w' => e = .returned (.int .i64 ((from_ s 0).length : Int)) ∧ Below w.heap.size w w' := by
  have hl0 := from_len s s.size 0 (by omega)
  go_enter Tryd.func19, Tryd.ntmps19
  go_wp2
  go_loopw [3] (fun n wr => ∃ p d : Nat, n = .int .i64 d ∧ p ≤ s.size ∧ Hid (d + (from_ s p).length = (from_ s 0).length) ∧ It w wr w.heap.size s p) (fun _ wr => s.size - wr.iterPos w.heap.size)
  case atStart => exact ⟨0, 0, rfl, by omega, Lib.hid (by omega), It.start w w (Below.refl _ _) s⟩
  case round =>
    obtain ⟨p, d, rfl, hp, HD, HI⟩ := hrel
    have hd : d ≤ 1000000 := by have := HD.out; omega
    by_cases hlt : p < s.size
    · have hnx := HI.more (P := Tryd.prog) hlt
      have HS := Lib.hid (HI.step (p + wd s p))
      have HW := Lib.hid (dec_bounds s p hlt)
      have HF := Lib.hid (from_lt hlt)
      have HPos := Lib.hid HI.pos
      go_wp2
      go_roundw
      case rel => exact ⟨p + wd s p, d + 1, by go_num, HW.out.2.1, Lib.hid (by have := HD.out; rw [HF.out] at this; simp at this; omega), HS.out⟩
      case measure => rw [HS.out.pos, HPos.out]; have := HW.out; omega
    · have hnx := HI.done (P := Tryd.prog) hlt
      have HE := Lib.hid (from_ge hlt)
      have HB := Lib.hid HI.bw
      go_wp2
      go_ret
      refine ⟨?_, HB.out⟩
      have := HD.out
      rw [HE.out] at this
      simp at this
      rw [← this]
      rfl

/-- The first runes' bytes. -/
def cutAt (s : ByteArray) (n : Int) : ByteArray := match (from_ s 0)[n.toNat]? with
  | some i => s.extract 0 i
  | none => s
set_option maxHeartbeats 1000000 in
theorem cut_calls (s : ByteArray) (n : Int) (w : World) (hs : s.size ≤ 1000000) (h0 : -9223372036854775808 ≤ n) (h1 : n < 9223372036854775808) :
    Calls Tryd.prog 18 #[.string s, .int .i64 n] w fun e w' => e = .returned (.string (cutAt s n)) ∧ Below w.heap.size w w' := by
  go_enter Tryd.func18, Tryd.ntmps18
  go_wp2
  go_loopw [1] (fun m wr => ∃ p d : Nat, m = .int .i64 (n - d) ∧ p ≤ s.size ∧ Hid (from_ s p = (from_ s 0).drop d ∧ (d = 0 ∨ (d : Int) ≤ n)) ∧ It w wr w.heap.size s p) (fun _ wr => s.size - wr.iterPos w.heap.size)
  case atStart => exact ⟨0, 0, by simp, by omega, Lib.hid ⟨by simp, .inl rfl⟩, It.start w w (Below.refl _ _) s⟩
  case round =>
    obtain ⟨p, d, rfl, hp, HD, HI⟩ := hrel
    by_cases hlt : p < s.size
    · have hnx := HI.more (P := Tryd.prog) hlt
      have HS := Lib.hid (HI.step (p + wd s p))
      have HW := Lib.hid (dec_bounds s p hlt)
      have HF := Lib.hid (from_lt hlt)
      have HPos := Lib.hid HI.pos
      by_cases hn : n - (d : Int) < 1
      · have hb : decide (n - (d : Int) < 1) = true := decide_eq_true hn
        have HC := Lib.hid (show cutAt s n = s.extract 0 p by
          have h2 := HD.out.1
          rw [HF.out] at h2
          have h3 : d = n.toNat := by rcases HD.out.2 with h | h <;> omega
          have h4 : (from_ s 0)[n.toNat]? = some p := by
            rw [← h3]
            have := congrArg (·[0]?) h2
            simpa using this.symm
          unfold cutAt
          rw [h4])
        have HN := Lib.hid hn
        go_wp2
        go_ret
        refine ⟨?_, HS.out.bw⟩
        rw [HC.out]
        simp
      · have hb : decide (n - (d : Int) < 1) = false := decide_eq_false hn
        have q : ¬ (n - (d : Int) < 1) := hn
        go_wp2
        go_roundw
        case rel => exact ⟨p + wd s p, d + 1, by congr 1; omega, HW.out.2.1, Lib.hid ⟨by
          have h2 := HD.out.1
          rw [HF.out] at h2
          have := congrArg (·.drop 1) h2
          simpa [List.drop_drop, Nat.add_comm] using this, .inr (by omega)⟩, HS.out⟩
        case measure => rw [HS.out.pos, HPos.out]; have := HW.out; omega
    · have hnx := HI.done (P := Tryd.prog) hlt
      have HE := Lib.hid (from_ge hlt)
      have HB := Lib.hid HI.bw
      go_wp2
      go_ret
      refine ⟨?_, HB.out⟩
      have h2 := HD.out.1
      rw [HE.out] at h2
      have h3 : (from_ s 0).length ≤ d := by
        have := congrArg List.length h2
        simp at this
        omega
      have h4 : (from_ s 0)[n.toNat]? = none := List.getElem?_eq_none (by rcases HD.out.2 with h | h <;> omega)
      unfold cutAt
      rw [h4]
      rfl

end Go.Proofs.YtphimckceegiiaaDoor.Text
