/- Rows of numbers as whole blocks: where they are read from, that they are one's own. -/
import Derived.Test.YtoigebnhnkdbbaaPAllx0
import Derived.Test.YtoigebnhnkdbbaaRd
import Derived.Lib.Hide
import Derived.Laws.CopyOwn
import Derived.WalkLawsBesides
namespace Go.Proofs.Ytoigebnhnkdbbaa.Math
open Go.RowKit Go.Proofs.YtoigebnhnkdbbaaW.PrintWords Go.Proofs.YtoigebnhnkdbbaaW.PrintLast Go.Proofs.YtoigebnhnkdbbaaW.PrintMore
set_option linter.unusedVariables false

/-- The cells from which a row is read. -/
theorem C_src {k : IntKind} {w : World} {A : Option Addr} {l : List Int} (h : Kd.C (Kd.int k) w A l.length l) (hp : 0 < l.length) :
    ∃ ad, A = some ad ∧ ∀ (j : Nat) v, (l.map (Value.int k))[j]? = some v → w.cell? (ad.add j) = some v := by
  obtain ⟨ad, rfl, _⟩ := Kd.at_int h 0 (by omega) (by omega)
  refine ⟨ad, rfl, ?_⟩
  intro j v hv
  rw [List.getElem?_map] at hv
  have hj : j < l.length := by
    rcases Nat.lt_or_ge j l.length with h1 | h1
    · exact h1
    · rw [List.getElem?_eq_none h1] at hv; cases hv
  obtain ⟨ad', hA, hc⟩ := Kd.at_int h (j : Int) (by omega) (by omega)
  injection hA with hA
  subst hA
  rw [Int.toNat_natCast] at hc
  rw [List.getElem?_eq_getElem hj] at hv
  simp only [Option.map_some, Option.some.injEq] at hv
  subst hv
  have e : rd l (j : Int) = l[j] := by simp [rd, List.getD_eq_getElem?_getD, List.getElem?_eq_getElem hj]
  rw [e] at hc
  exact hc

theorem C_none {k : IntKind} {w : World} {l : List Int} (h : Kd.C (Kd.int k) w none l.length l) : l = [] := by
  rcases Nat.eq_zero_or_pos l.length with h0 | h0
  · exact List.eq_nil_of_length_eq_zero h0
  · obtain ⟨ad, h1, _⟩ := C_src h h0; cases h1

/-- A block that is known whole is a row of one's own. -/
theorem R_block {k : IntKind} {w : World} {g base : Nat} {t : TypeId} (xs : List Int) {n : Nat} (hl : xs.length = n) (hn : n ≤ 9223372036854775807) (hb : base ≤ g) (h : w.heap[g]? = some (.cells (xs.map (Value.int k)).toArray t (0, 0))) :
    Kd.R (Kd.int k) t w base (fun _ => True) (.slice (some ⟨g, 0, none⟩) n n) xs := by
  subst hl
  refine Kd.R_of_own (enc := Value.int k) (h1 := fun _ => rfl) ⟨by simp [encs], .inr ⟨g, xs.length, (xs.map (Value.int k)).toArray, rfl, hb, h, Nat.le_refl _, hn, by simp, ?_⟩⟩ (fun _ _ => trivial)
  have e : ∀ ys : List Value, xs.length * 1 = ys.length → ys.take (xs.length * 1) = ys := fun ys he => by rw [he, List.take_length]
  exact e _ (by simp)

theorem splice_map {k : IntKind} (l : List Int) (off : Nat) (c : List Int) : splice (l.map (Value.int k)) off (c.map (Value.int k)) = (splice l off c).map (Value.int k) := by
  simp [splice]

theorem made_zeros (k : IntKind) (n : Nat) : (madeCells #[Value.int k 0] n).toList = (List.replicate n (0 : Int)).map (Value.int k) := by
  apply List.ext_getElem
  · simp [madeCells]
  · intro i h1 h2
    simp [madeCells, Nat.mod_one]

/-- make, of zeros, with its cells named. -/
theorem run_make_zeros {P : Program} (t e : TypeId) (k : IntKind) (ht : P.underlying t = some (.slice e)) (hinfo : (P.info? e).map (fun i => (i.zero, i.size, i.bytes)) = some (some (.int k 0), 1, 1))
    (m : Nat) (hm : m ≤ 281474976710656) (i : Int) (hi : i = (m : Int)) (ZV : List Value) (hz : ZV = (List.replicate m (0 : Int)).map (Value.int k)) :
    ∀ W : World, (Instr.makeSlice t (.int .i64 i) (.int .i64 i)).run P W = .ok (.slice (some ⟨W.heap.size, 0, none⟩) m m) (W.alloc (.cells ZV.toArray e)) := by
  intro W
  subst hi
  rw [print_make (P := P) t e k 1 ht hinfo (by decide) m (by omega) W, hz, ← made_zeros]

theorem C_block_pre {k : IntKind} {w : World} {g : Nat} {t : TypeId} {fr : Nat × Nat} (xs ys : List Int) (hn : xs.length ≤ 9223372036854775807) (h : w.heap[g]? = some (.cells ((xs ++ ys).map (Value.int k)).toArray t fr)) :
    Kd.C (Kd.int k) w (some ⟨g, 0, none⟩) xs.length xs := by
  refine Kd.C_of_reads (d := (0 : Int)) ⟨rfl, hn, fun _ => ⟨_, rfl, ?_⟩⟩
  intro i hi
  rw [add_plain, cell_of_row w g i _ t fr h]
  rw [List.getElem?_toArray, List.getElem?_map, List.getElem?_append_left hi, List.getElem?_eq_getElem hi]
  simp [List.getElem?_eq_getElem hi]

/-! cuts with a capacity -/
theorem cut_to3 {P : Program} (t e : TypeId) (kh km : IntKind) {i : TypeInfo} (ht : P.underlying t = some (.slice e)) (hi : P.info? e = some i) (A : Option Addr) (n c : Nat) (j m : Int) (h0 : 0 ≤ j) (h1 : j ≤ m) (hm : m ≤ c) :
    ∀ W : World, (Instr.slice t (.slice A n c) none (some (.int kh j)) (some (.int km m))).run P W = .ok (.slice A j.toNat m.toNat) W := by
  intro W
  have hel : P.elem t = e := by simp [Program.elem, ht]
  have hu : P.underlying t = some (.slice (P.elem t)) := by rw [hel]; exact ht
  have ha : (A.map fun x => x.add 0) = A := by cases A <;> simp [Addr.add]
  rw [run_slice_hm W t A n c hu kh km j m h0 h1 (by omega), hel]
  simp [sizeOf, typeInfo, hi, sliced, Result.andThen, ha]
theorem cut_mid3 {P : Program} (t e : TypeId) (kl kh km : IntKind) {i : TypeInfo} (ht : P.underlying t = some (.slice e)) (hi : P.info? e = some i) (size : Nat) (hsz : i.size = size) (ad : Addr) (n c : Nat) (lo j m : Int) (h0 : 0 ≤ lo) (h1 : lo ≤ j) (h2 : j ≤ m) (hm : m ≤ c) (hne : lo < m) :
    ∀ W : World, (Instr.slice t (.slice (some ad) n c) (some (.int kl lo)) (some (.int kh j)) (some (.int km m))).run P W = .ok (.slice (some (ad.add (lo.toNat * size))) (j.toNat - lo.toNat) (m.toNat - lo.toNat)) W := by
  intro W
  have hel : P.elem t = e := by simp [Program.elem, ht]
  have hu : P.underlying t = some (.slice (P.elem t)) := by rw [hel]; exact ht
  rw [run_slice_lhm W t (some ad) n c hu kl kh km lo j m h0 h1 h2 (by omega), hel]
  have : m.toNat ≠ lo.toNat := by omega
  simp [sizeOf, typeInfo, hi, hsz, sliced, Result.andThen, this]

theorem block_below {w w1 : World} {g : Nat} {o : Obj} (h : w.heap[g]? = some o) (hb : Below w.heap.size w w1) : w1.heap[g]? = some o := by
  refine (hb.block g ?_).trans h
  rcases Nat.lt_or_ge g w.heap.size with h1 | h1
  · exact h1
  · rw [Array.getElem?_eq_none h1] at h; cases h

end Go.Proofs.Ytoigebnhnkdbbaa.Math
