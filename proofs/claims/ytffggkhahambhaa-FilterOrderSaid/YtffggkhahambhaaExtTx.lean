/- A range over a string: the iterator's block. -/
import Derived.Test.YtffggkhahambhaaUtf
import Derived.Test.YtffggkhahambhaaBlocks
import Derived.Lib.OthersKept
import Derived.Laws.DeepStrings4
import Derived.Outline
namespace Go.Proofs.Ytffggkhahambhaa.Text
open Go.RowKit Go.Proofs.YtffggkhahambhaaW.PrintWords Go.Proofs.YtffggkhahambhaaW.PrintLast Go.Proofs.YtffggkhahambhaaW.PrintMore Go.Proofs.Ytffggkhahambhaa.Math Go.Proofs.Ytffggkhahambhaa.Runes
set_option linter.unusedVariables false
set_option linter.unusedSimpArgs false

/-- The world of a range over a string: an iterator's block of the call's own. -/
structure It (w wr : World) (N : Nat) (s : ByteArray) (p : Nat) : Prop where
  it : wr.heap[N]? = some (.stringIter s p)
  bw : Below w.heap.size w wr
  n0 : w.heap.size ≤ N
section
variable {w wr w1 : World} {N p : Nat} {s : ByteArray}
theorem It.start (w wr : World) (hb : Below w.heap.size w wr) (s : ByteArray) : It w (wr.iter s 0) wr.heap.size s 0 := ⟨World.iter_heap wr s 0, below_alloc hb _, hb.size⟩
theorem It.step (h : It w wr N s p) (q : Nat) : It w (wr.iterAt N s q) N s q := ⟨Lib.iterAt_heap wr N s p q h.it, Lib.below_iterAt h.bw h.n0 s q, h.n0⟩
theorem It.next (h : It w wr N s p) (hb : Below wr.heap.size wr w1) : It w w1 N s p := ⟨block_below h.it hb, below_step h.bw hb, h.n0⟩
theorem It.pos (h : It w wr N s p) : wr.iterPos N = p := by simp [World.iterPos, h.it]
theorem It.more {P : Program} (h : It w wr N s p) (hp : p < s.size) (ty : TypeId) : (Instr.next (.pointer (some ⟨N, 0, none⟩)) true ty).run P wr = .ok (.tuple #[.bool true, .int .i64 p, .int .i32 (rn s p)]) (wr.iterAt N s (p + wd s p)) := Lib.run_next_any_at wr N s p ty h.it hp
theorem It.done {P : Program} (h : It w wr N s p) (hp : ¬ p < s.size) (ty : TypeId) : (Instr.next (.pointer (some ⟨N, 0, none⟩)) true ty).run P wr = .ok (.tuple #[.bool false]) wr := Lib.run_next_end_at wr N s p ty h.it hp
end

theorem R_iterAt {α : Type} {d : Kd α} {e : TypeId} {wr : World} {N base q : Nat} {s : ByteArray} {ok : Nat → Prop} {v : Value} {xs : List α} (h : d.R e wr base ok v xs) (hN : N < base) : d.R e (wr.iterAt N s q) base ok v xs :=
  Kd.R_mono (Kd.R_step (Kd.R_bound h) (fun k hk _ => Lib.iterAt_other wr N k s q (by have := hk.2.1; omega))) (fun _ hk => hk.1)

end Go.Proofs.Ytffggkhahambhaa.Text

namespace Go.Proofs.Ytffggkhahambhaa.Text
open Go.RowKit Go.Proofs.Ytffggkhahambhaa.PAll Go.Proofs.YtffggkhahambhaaW.PrintWords Go.Proofs.YtffggkhahambhaaW.PrintLast Go.Proofs.YtffggkhahambhaaW.PrintMore Go.Proofs.Ytffggkhahambhaa.Math Go.Proofs.Ytffggkhahambhaa.Runes
set_option linter.unusedVariables false
set_option linter.unusedSimpArgs false

theorem info_i32 : (Try.prog.info? 21).map (fun i => (i.zero, i.size, i.bytes)) = some (some (.int .i32 0), 1, 4) := by kernel_rfl
theorem info_sign : (Try.prog.info? 94).map (fun i => (i.zero, i.size, i.bytes)) = some (some (.agg #[.int .i32 0, .bool false, .bool false]), 3, 8) := by kernel_rfl
/-- A step above the iterator's block leaves it. -/
theorem It.above {w wr w1 : World} {s : ByteArray} {p : Nat} (h : It w wr w.heap.size s p) (hb : Below (w.heap.size + 1) wr w1) : It w w1 w.heap.size s p :=
  ⟨(hb.block _ (Nat.lt_succ_self _)).trans h.it, h.bw.trans (hb.mono (Nat.le_succ _)), h.n0⟩
theorem iter_size {w wr : World} {s : ByteArray} {p : Nat} (h : It w wr w.heap.size s p) : w.heap.size + 1 ≤ wr.heap.size := blk_lt h.it
set_option maxHeartbeats 1000000 in
theorem runes_calls (s : ByteArray) (w : World) (hs : s.size ≤ 1000000) :
    Calls Try.prog 60 #[.string s] w fun e w' => ∃ v, e = .returned v ∧ Kd.R (Kd.int .i32) 21 w' w.heap.size (fun _ => True) v (runesI s) ∧ Below w.heap.size w w' := by
  have HSs := Lib.hid hs
  clear hs
  go_enter Try.func60, Try.ntmps60
  go_wp2
  go_loopw [3] (fun v wr => ∃ (p : Nat) (acc : List Int), p ≤ s.size ∧ acc.length ≤ p ∧ Hid (Kd.R (Kd.int .i32) 21 wr (w.heap.size + 1) (fun _ => True) v acc) ∧ Hid (acc ++ (from_ s p).map (fun i => (rn s i : Int)) = runesI s) ∧ It w wr w.heap.size s p) (fun _ wr => s.size - wr.iterPos w.heap.size)
  case atStart => exact ⟨0, [], by omega, by simp, Lib.hid (Kd.R_nil _ _ _ _ _), Lib.hid rfl, It.start w w (Below.refl _ _) s⟩
  case round =>
    obtain ⟨p, acc, hp, hal, HR, HA, HI⟩ := hrel
    by_cases hlt : p < s.size
    · have hnx := HI.more (P := Try.prog) hlt
      have HS := Lib.hid (HI.step (p + wd s p))
      have HW := Lib.hid (dec_bounds s p hlt)
      have HF := Lib.hid (from_lt hlt)
      have HPos := Lib.hid HI.pos
      have HR2 := Lib.hid (R_iterAt (q := p + wd s p) (s := s) HR.out (Nat.lt_succ_self _))
      have HSz := Lib.hid (iter_size HS.out)
      generalize wr.iterAt w.heap.size s (p + wd s p) = wr2 at *
      go_wp2_with (first
        | ((with_reducible refine gate_dst (N := 13) rfl ?_); refine Kd.R_lit (Kd.int .i32) (w0 := wr2) (w.heap.size + 1) 21 ?hg (N := 13) ?hd (xs := [(rn s p : Int)]) (inner := [.int .i32 (rn s p : Int)]) (ok := fun _ => True) (okp := fun _ => True) ?hr ?hp (fun _ hk => hk) trivial (Below.refl _ _) HSz.out (by simp) ?_; (case hd => rfl); (case hg => rfl); (case hr => first | (go_simp; done) | (go_simp; rfl)); (case hp => exact (Reps.one (show Kd.M (Kd.int .i32) _ _ _ (rn s p : Int) [.int .i32 (rn s p : Int)] from rfl) (Reps.none _ _))); intro v3 w3 ho hb hg_ hnew_; clear hnew_; obtain ⟨A3, c3, rfl⟩ := Kd.R_slice ho; have HO3 := Lib.hid (Kd.R_reads' ho).2.2; have HB3 := Lib.hid hb; have HR3 := Lib.hid (Kd.R_grown2 HR2.out rfl hg_ (fun _ h => by cases h)); clear ho hb hg_)
        | ((with_reducible refine gate_builtin (b := .append) (xs := #[.tmp 11, .tmp 13]) rfl ?_); at_builtin; refine Kd.R_append_rows (Kd.int .i32) (w0 := wr2) (w.heap.size + 1) rfl (.tmp 11) (.tmp 13) 91 21 (.int .i32 0) 4 rfl Try.underlying91 info_i32 rfl (by decide) (by omega) _ acc [(rn s p : Int)] A3 _ c3 (fun _ => True) (fun _ => False) rfl rfl HR3.out HO3.out (fun _ _ h => h) (fun _ h => h.elim) (fun _ _ => trivial) HB3.out (Nat.le_trans HSz.out HB3.out.size) (by have := HSs.out; simp; omega) ?_; intro v4 w4 ho hb hg_ hnew_; clear hg_ hnew_; have HR4 := Lib.hid ho; have HI4 := Lib.hid (HS.out.above hb); clear ho hb))
      go_roundw
      case rel => exact ⟨p + wd s p, acc ++ [(rn s p : Int)], HW.out.2.1, by have := HW.out.1; simp; omega, HR4, Lib.hid (by rw [← HA.out, HF.out]; simp), HI4.out⟩
      case measure => rw [HI4.out.pos, HPos.out]; have := HW.out; omega
    · have hnx := HI.done (P := Try.prog) hlt
      have HE := Lib.hid (from_ge hlt)
      have HB := Lib.hid HI.bw
      go_wp2
      go_ret
      refine ⟨_, rfl, ?_, HB.out⟩
      have h := HA.out
      rw [HE.out] at h
      simp at h
      rw [← h]
      exact Kd.R_lower HR.out (Nat.le_succ _)

/-- A pattern's parts. -/
def signsL : Bool → List Int → List S94
  | true, [] => [⟨92, false, false⟩]
  | false, [] => []
  | true, r :: t => ⟨r, false, false⟩ :: signsL false t
  | false, r :: t => if r = 92 then signsL true t else if r = 42 then ⟨0, false, true⟩ :: signsL false t else if r = 63 then ⟨0, true, false⟩ :: signsL false t else ⟨r, false, false⟩ :: signsL false t

theorem sign_reps (w : World) (base : Nat) (ok : Nat → Prop) (x : S94) : Reps (Kd.M k94 w base ok) 3 [x] [.int .i32 x.f0, .bool x.f1, .bool x.f2] := by
  have h := Reps.snoc (size := 3) (Reps.none (Kd.M k94 w base ok) 3) (k94_mkM w base ok x) rfl
  exact h
set_option maxHeartbeats 2000000 in
theorem signs_calls (s : ByteArray) (w : World) (hs : s.size ≤ 1000000) :
    Calls Try.prog 59 #[.string s] w fun e w' => ∃ v, e = .returned v ∧ Kd.R k94 94 w' w.heap.size (fun _ => True) v (signsL false (runesI s)) ∧ Below w.heap.size w w' := by
  have HSs := Lib.hid hs
  clear hs
  have hu44 := Try.underlying94
  go_enter Try.func59, Try.ntmps59
  go_wp2
  go_loopw [3, 4] (fun v e wr => ∃ (p : Nat) (acc : List S94) (esc : Bool), e = .bool esc ∧ p ≤ s.size ∧ acc.length ≤ p ∧ Hid (Kd.R k94 94 wr (w.heap.size + 1) (fun _ => True) v acc) ∧ Hid (acc ++ signsL esc ((from_ s p).map (fun i => (rn s i : Int))) = signsL false (runesI s)) ∧ It w wr w.heap.size s p) (fun _ _ wr => s.size - wr.iterPos w.heap.size)
  case atStart => exact ⟨0, [], false, rfl, by omega, by simp, Lib.hid (Kd.R_nil _ _ _ _ _), Lib.hid rfl, It.start w w (Below.refl _ _) s⟩
  case round =>
    obtain ⟨p, acc, esc, rfl, hp, hal, HR, HA, HI⟩ := hrel
    by_cases hlt : p < s.size
    · have hnx := HI.more (P := Try.prog) hlt
      have HS := Lib.hid (HI.step (p + wd s p))
      have HW := Lib.hid (dec_bounds s p hlt)
      have HF := Lib.hid (from_lt hlt)
      have HPos := Lib.hid HI.pos
      have HR2 := Lib.hid (R_iterAt (q := p + wd s p) (s := s) HR.out (Nat.lt_succ_self _))
      have HSz := Lib.hid (iter_size HS.out)
      generalize wr.iterAt w.heap.size s (p + wd s p) = wr2 at *
      cases esc with
      | true =>
        go_wp2_with (first
          | ((with_reducible refine gate_dst (N := 22) rfl ?_); refine Kd.R_lit k94 (w0 := wr2) (w.heap.size + 1) 94 ?hg22 (N := 22) ?hd22 (xs := [(⟨(rn s p : Int), false, false⟩ : S94)]) (inner := [.int .i32 (rn s p : Int), .bool false, .bool false]) (ok := fun _ => True) (okp := fun _ => True) ?hr22 ?hp22 (fun _ hk => hk) trivial (Below.refl _ _) HSz.out (by simp) ?_; (case hd22 => rfl); (case hg22 => rfl); (case hr22 => first | (go_simp; done) | (go_simp; rfl)); (case hp22 => exact (sign_reps _ _ _ (⟨(rn s p : Int), false, false⟩ : S94))); intro v3 w3 ho hb hg_ hnew_; clear hnew_; obtain ⟨A3, c3, rfl⟩ := Kd.R_slice ho; have HO3 := Lib.hid (Kd.R_reads' ho).2.2; have HB3 := Lib.hid hb; have HR3 := Lib.hid (Kd.R_grown2 HR2.out rfl hg_ (fun _ h => by cases h)); clear ho hb hg_)
          | ((with_reducible refine gate_builtin (b := .append) (xs := #[.tmp 19, .tmp 22]) rfl ?_); at_builtin; refine Kd.R_append_rows k94 (w0 := wr2) (w.heap.size + 1) rfl (.tmp 19) (.tmp 22) 89 94 (.agg #[.int .i32 0, .bool false, .bool false]) 8 rfl Try.underlying89 info_sign rfl (by decide) (by omega) _ acc [(⟨(rn s p : Int), false, false⟩ : S94)] A3 _ c3 (fun _ => True) (fun _ => False) rfl rfl HR3.out HO3.out (fun x_ cs_ h_ => by rw [k94_open h_]; exact k94_mkM _ _ _ x_) (fun _ h => h.elim) (fun _ _ => trivial) HB3.out (Nat.le_trans HSz.out HB3.out.size) (by have := HSs.out; simp; omega) ?_; intro v4 w4 ho hb hg_ hnew_; clear hg_ hnew_; have HR4 := Lib.hid ho; have HI4 := Lib.hid (HS.out.above hb); clear ho hb))
        go_roundw
        case rel => exact ⟨p + wd s p, acc ++ [(⟨(rn s p : Int), false, false⟩ : S94)], false, rfl, HW.out.2.1, by have := HW.out.1; simp; omega, HR4, Lib.hid (by rw [← HA.out, HF.out, List.map_cons]; simp [signsL]), HI4.out⟩
        case measure => rw [HI4.out.pos, HPos.out]; have := HW.out; omega
      | false =>
        have h92 := @HA
        by_cases r92 : rn s p = 92
        · have b92 : ((rn s p : Int) == 92) = true := beq_iff_eq.2 (by omega)
          have HQ := Lib.hid r92
          clear r92 h92
          go_wp2
          go_roundw
          case rel => exact ⟨p + wd s p, acc, true, rfl, HW.out.2.1, by have := HW.out.1; omega, HR2, Lib.hid (by rw [← HA.out, HF.out, List.map_cons, signsL, if_pos (by have := HQ.out; omega)]), HS.out⟩
          case measure => rw [HS.out.pos, HPos.out]; have := HW.out; omega
        · have b92 : ((rn s p : Int) == 92) = false := beq_eq_false_iff_ne.2 (by omega)
          by_cases r42 : rn s p = 42
          · have b42 : ((rn s p : Int) == 42) = true := beq_iff_eq.2 (by omega)
            have HQ := Lib.hid r42
            clear r92 h92 r42
            go_wp2_with (first
              | ((with_reducible refine gate_dst (N := 32) rfl ?_); refine Kd.R_lit k94 (w0 := wr2) (w.heap.size + 1) 94 ?hg32 (N := 32) ?hd32 (xs := [(⟨0, false, true⟩ : S94)]) (inner := [.int .i32 0, .bool false, .bool true]) (ok := fun _ => True) (okp := fun _ => True) ?hr32 ?hp32 (fun _ hk => hk) trivial (Below.refl _ _) HSz.out (by simp) ?_; (case hd32 => rfl); (case hg32 => rfl); (case hr32 => first | (go_simp; done) | (go_simp; rfl)); (case hp32 => exact (sign_reps _ _ _ (⟨0, false, true⟩ : S94))); intro v3 w3 ho hb hg_ hnew_; clear hnew_; obtain ⟨A3, c3, rfl⟩ := Kd.R_slice ho; have HO3 := Lib.hid (Kd.R_reads' ho).2.2; have HB3 := Lib.hid hb; have HR3 := Lib.hid (Kd.R_grown2 HR2.out rfl hg_ (fun _ h => by cases h)); clear ho hb hg_)
              | ((with_reducible refine gate_builtin (b := .append) (xs := #[.tmp 30, .tmp 32]) rfl ?_); at_builtin; refine Kd.R_append_rows k94 (w0 := wr2) (w.heap.size + 1) rfl (.tmp 30) (.tmp 32) 89 94 (.agg #[.int .i32 0, .bool false, .bool false]) 8 rfl Try.underlying89 info_sign rfl (by decide) (by omega) _ acc [(⟨0, false, true⟩ : S94)] A3 _ c3 (fun _ => True) (fun _ => False) rfl rfl HR3.out HO3.out (fun x_ cs_ h_ => by rw [k94_open h_]; exact k94_mkM _ _ _ x_) (fun _ h => h.elim) (fun _ _ => trivial) HB3.out (Nat.le_trans HSz.out HB3.out.size) (by have := HSs.out; simp; omega) ?_; intro v4 w4 ho hb hg_ hnew_; clear hg_ hnew_; have HR4 := Lib.hid ho; have HI4 := Lib.hid (HS.out.above hb); clear ho hb))
            go_roundw
            case rel => exact ⟨p + wd s p, acc ++ [(⟨0, false, true⟩ : S94)], false, rfl, HW.out.2.1, by have := HW.out.1; simp; omega, HR4, Lib.hid (by rw [← HA.out, HF.out, List.map_cons]; rw [signsL, if_neg (by have := HQ.out; omega), if_pos (by have := HQ.out; omega)]; simp), HI4.out⟩
            case measure => rw [HI4.out.pos, HPos.out]; have := HW.out; omega
          · have b42 : ((rn s p : Int) == 42) = false := beq_eq_false_iff_ne.2 (by omega)
            by_cases r63 : rn s p = 63
            · have b63 : ((rn s p : Int) == 63) = true := beq_iff_eq.2 (by omega)
              have HQ := Lib.hid r63
              clear r92 h92 r42 r63
              go_wp2_with (first
                | ((with_reducible refine gate_dst (N := 39) rfl ?_); refine Kd.R_lit k94 (w0 := wr2) (w.heap.size + 1) 94 ?hg39 (N := 39) ?hd39 (xs := [(⟨0, true, false⟩ : S94)]) (inner := [.int .i32 0, .bool true, .bool false]) (ok := fun _ => True) (okp := fun _ => True) ?hr39 ?hp39 (fun _ hk => hk) trivial (Below.refl _ _) HSz.out (by simp) ?_; (case hd39 => rfl); (case hg39 => rfl); (case hr39 => first | (go_simp; done) | (go_simp; rfl)); (case hp39 => exact (sign_reps _ _ _ (⟨0, true, false⟩ : S94))); intro v3 w3 ho hb hg_ hnew_; clear hnew_; obtain ⟨A3, c3, rfl⟩ := Kd.R_slice ho; have HO3 := Lib.hid (Kd.R_reads' ho).2.2; have HB3 := Lib.hid hb; have HR3 := Lib.hid (Kd.R_grown2 HR2.out rfl hg_ (fun _ h => by cases h)); clear ho hb hg_)
                | ((with_reducible refine gate_builtin (b := .append) (xs := #[.tmp 37, .tmp 39]) rfl ?_); at_builtin; refine Kd.R_append_rows k94 (w0 := wr2) (w.heap.size + 1) rfl (.tmp 37) (.tmp 39) 89 94 (.agg #[.int .i32 0, .bool false, .bool false]) 8 rfl Try.underlying89 info_sign rfl (by decide) (by omega) _ acc [(⟨0, true, false⟩ : S94)] A3 _ c3 (fun _ => True) (fun _ => False) rfl rfl HR3.out HO3.out (fun x_ cs_ h_ => by rw [k94_open h_]; exact k94_mkM _ _ _ x_) (fun _ h => h.elim) (fun _ _ => trivial) HB3.out (Nat.le_trans HSz.out HB3.out.size) (by have := HSs.out; simp; omega) ?_; intro v4 w4 ho hb hg_ hnew_; clear hg_ hnew_; have HR4 := Lib.hid ho; have HI4 := Lib.hid (HS.out.above hb); clear ho hb))
              go_roundw
              case rel => exact ⟨p + wd s p, acc ++ [(⟨0, true, false⟩ : S94)], false, rfl, HW.out.2.1, by have := HW.out.1; simp; omega, HR4, Lib.hid (by rw [← HA.out, HF.out, List.map_cons]; rw [signsL, if_neg (by have := HQ.out; omega), if_neg (by have := HQ.out; omega), if_pos (by have := HQ.out; omega)]; simp), HI4.out⟩
              case measure => rw [HI4.out.pos, HPos.out]; have := HW.out; omega
            · have b63 : ((rn s p : Int) == 63) = false := beq_eq_false_iff_ne.2 (by omega)
              have HQ := Lib.hid (show ¬ rn s p = 92 ∧ ¬ rn s p = 42 ∧ ¬ rn s p = 63 from ⟨r92, r42, r63⟩)
              clear r92 h92 r42 r63
              go_wp2_with (first
                | ((with_reducible refine gate_dst (N := 15) rfl ?_); refine Kd.R_lit k94 (w0 := wr2) (w.heap.size + 1) 94 ?hg15 (N := 15) ?hd15 (xs := [(⟨(rn s p : Int), false, false⟩ : S94)]) (inner := [.int .i32 (rn s p : Int), .bool false, .bool false]) (ok := fun _ => True) (okp := fun _ => True) ?hr15 ?hp15 (fun _ hk => hk) trivial (Below.refl _ _) HSz.out (by simp) ?_; (case hd15 => rfl); (case hg15 => rfl); (case hr15 => first | (go_simp; done) | (go_simp; rfl)); (case hp15 => exact (sign_reps _ _ _ (⟨(rn s p : Int), false, false⟩ : S94))); intro v3 w3 ho hb hg_ hnew_; clear hnew_; obtain ⟨A3, c3, rfl⟩ := Kd.R_slice ho; have HO3 := Lib.hid (Kd.R_reads' ho).2.2; have HB3 := Lib.hid hb; have HR3 := Lib.hid (Kd.R_grown2 HR2.out rfl hg_ (fun _ h => by cases h)); clear ho hb hg_)
                | ((with_reducible refine gate_builtin (b := .append) (xs := #[.tmp 12, .tmp 15]) rfl ?_); at_builtin; refine Kd.R_append_rows k94 (w0 := wr2) (w.heap.size + 1) rfl (.tmp 12) (.tmp 15) 89 94 (.agg #[.int .i32 0, .bool false, .bool false]) 8 rfl Try.underlying89 info_sign rfl (by decide) (by omega) _ acc [(⟨(rn s p : Int), false, false⟩ : S94)] A3 _ c3 (fun _ => True) (fun _ => False) rfl rfl HR3.out HO3.out (fun x_ cs_ h_ => by rw [k94_open h_]; exact k94_mkM _ _ _ x_) (fun _ h => h.elim) (fun _ _ => trivial) HB3.out (Nat.le_trans HSz.out HB3.out.size) (by have := HSs.out; simp; omega) ?_; intro v4 w4 ho hb hg_ hnew_; clear hg_ hnew_; have HR4 := Lib.hid ho; have HI4 := Lib.hid (HS.out.above hb); clear ho hb))
              go_roundw
              case rel => exact ⟨p + wd s p, acc ++ [(⟨(rn s p : Int), false, false⟩ : S94)], false, rfl, HW.out.2.1, by have := HW.out.1; simp; omega, HR4, Lib.hid (by rw [← HA.out, HF.out, List.map_cons]; rw [signsL, if_neg (by have := HQ.out; omega), if_neg (by have := HQ.out; omega), if_neg (by have := HQ.out; omega)]; simp), HI4.out⟩
              case measure => rw [HI4.out.pos, HPos.out]; have := HW.out; omega
    · have hnx := HI.done (P := Try.prog) hlt
      have HE := Lib.hid (from_ge hlt)
      have HB := Lib.hid HI.bw
      cases esc with
      | false =>
        go_wp2
        go_ret
        refine ⟨_, rfl, ?_, HB.out⟩
        have h := HA.out
        rw [HE.out] at h
        simp [signsL] at h
        rw [← h]
        exact Kd.R_lower HR.out (Nat.le_succ _)
      | true =>
        have HR2 := HR
        have HS := Lib.hid HI
        have HSz := Lib.hid (iter_size HI)
        go_wp2_with (first
          | ((with_reducible refine gate_dst (N := 44) rfl ?_); refine Kd.R_lit k94 (w0 := wr) (w.heap.size + 1) 94 ?hg44 (N := 44) ?hd44 (xs := [(⟨92, false, false⟩ : S94)]) (inner := [.int .i32 92, .bool false, .bool false]) (ok := fun _ => True) (okp := fun _ => True) ?hr44 ?hp44 (fun _ hk => hk) trivial (Below.refl _ _) HSz.out (by simp) ?_; (case hd44 => rfl); (case hg44 => rfl); (case hr44 => first | (go_simp; done) | (go_simp; rfl)); (case hp44 => exact (sign_reps _ _ _ (⟨92, false, false⟩ : S94))); intro v3 w3 ho hb hg_ hnew_; clear hnew_; obtain ⟨A3, c3, rfl⟩ := Kd.R_slice ho; have HO3 := Lib.hid (Kd.R_reads' ho).2.2; have HB3 := Lib.hid hb; have HR3 := Lib.hid (Kd.R_grown2 HR2.out rfl hg_ (fun _ h => by cases h)); clear ho hb hg_)
          | ((with_reducible refine gate_builtin (b := .append) (xs := #[.tmp 42, .tmp 44]) rfl ?_); at_builtin; refine Kd.R_append_rows k94 (w0 := wr) (w.heap.size + 1) rfl (.tmp 42) (.tmp 44) 89 94 (.agg #[.int .i32 0, .bool false, .bool false]) 8 rfl Try.underlying89 info_sign rfl (by decide) (by omega) _ acc [(⟨92, false, false⟩ : S94)] A3 _ c3 (fun _ => True) (fun _ => False) rfl rfl HR3.out HO3.out (fun x_ cs_ h_ => by rw [k94_open h_]; exact k94_mkM _ _ _ x_) (fun _ h => h.elim) (fun _ _ => trivial) HB3.out (Nat.le_trans HSz.out HB3.out.size) (by have := HSs.out; simp; omega) ?_; intro v4 w4 ho hb hg_ hnew_; clear hg_ hnew_; have HR4 := Lib.hid ho; have HI4 := Lib.hid (HS.out.above hb); clear ho hb))
        go_ret
        refine ⟨_, rfl, ?_, HI4.out.bw⟩
        have h := HA.out
        rw [HE.out] at h
        simp only [List.map_nil, signsL] at h
        rw [← h]
        exact Kd.R_lower HR4.out (Nat.le_succ _)

end Go.Proofs.Ytffggkhahambhaa.Text

namespace Go.Proofs.Ytffggkhahambhaa.PAll
open Go.RowKit Go.Proofs.YtffggkhahambhaaW.PrintWords Go.Proofs.YtffggkhahambhaaW.PrintLast Go.Proofs.YtffggkhahambhaaW.PrintMore Go.Proofs.Ytffggkhahambhaa.Math Go.Proofs.Ytffggkhahambhaa.Runes Go.Proofs.Ytffggkhahambhaa.Text
set_option linter.unusedVariables false
theorem guard_some {α : Type} {c : Prop} [Decidable c] {x r : α} (h : (if c then some x else none) = some r) : c ∧ x = r := by
  by_cases hc : c
  · rw [if_pos hc] at h; exact ⟨hc, Option.some.inj h⟩
  · rw [if_neg hc] at h; cases h

def text_runes.f (a0 : ByteArray) : Option (List Int) := if a0.size ≤ 1000000 then some (runesI a0) else none
theorem text_runes.calls (a0 : ByteArray) (r : List Int) (w : World) (h : text_runes.f a0 = some r) :
    Calls Try.prog 60 #[.string a0] w fun e w' => ∃ v0_ : Value, e = .returned (v0_) ∧ Kd.R (Kd.int .i32) 21 w' w.heap.size (fun _ => True) v0_ r ∧ Below w.heap.size w w' := by
  obtain ⟨h1, rfl⟩ := guard_some h
  exact runes_calls a0 w h1
def text_signs.f (a0 : ByteArray) : Option (List S94) := if a0.size ≤ 1000000 then some (signsL false (runesI a0)) else none
theorem text_signs.calls (a0 : ByteArray) (r : List S94) (w : World) (h : text_signs.f a0 = some r) :
    Calls Try.prog 59 #[.string a0] w fun e w' => ∃ v0_ : Value, e = .returned (v0_) ∧ Kd.R k94 94 w' w.heap.size (fun _ => True) v0_ r ∧ Below w.heap.size w w' := by
  obtain ⟨h1, rfl⟩ := guard_some h
  exact signs_calls a0 w h1
end Go.Proofs.Ytffggkhahambhaa.PAll
