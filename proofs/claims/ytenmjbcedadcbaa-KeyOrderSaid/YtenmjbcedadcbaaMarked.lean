/- Rows of bytes that may bear a conversion's mark: '[]byte(s)', appended to. -/
import Derived.Test.YtenmjbcedadcbaaPAllx0
import Derived.Test.YtenmjbcedadcbaaBlocks
import Derived.ArgAppend
import Derived.Lib.SlBuf
import Derived.Deep.MidRow
import Derived.Lib.ConvBytes
namespace Go.Proofs.Ytenmjbcedadcbaa.Math
open Go.RowKit Go.Proofs.YtenmjbcedadcbaaW.PrintWords Go.Proofs.YtenmjbcedadcbaaW.PrintLast Go.Proofs.YtenmjbcedadcbaaW.PrintMore
set_option linter.unusedVariables false

/-- A row of bytes that can be appended to, whatever mark its block bears behind it. -/
def MRow (w : World) (base : Nat) (v : Value) (xs : List Int) : Prop :=
  ∃ g cap, v = .slice (some ⟨g, 0, none⟩) xs.length cap ∧ base ≤ g ∧ xs.length ≤ cap ∧ cap ≤ maxLen ∧ g < w.heap.size ∧
    (∀ j, j < xs.length → w.cell? ⟨g, j, none⟩ = some (.int .u8 (rd xs (j : Int)))) ∧ (∀ j, xs.length ≤ j → j < cap → (w.cell? ⟨g, j, none⟩).isSome = true ∧ w.frozen? ⟨g, j, none⟩ = false)

theorem M_below {w w1 : World} {base : Nat} {v : Value} {xs : List Int} (h : MRow w base v xs) (hb : Below w.heap.size w w1) : MRow w1 base v xs := by
  obtain ⟨g, cap, h0, h1, h2, h3, h4, h5, h6⟩ := h
  refine ⟨g, cap, h0, h1, h2, h3, Nat.lt_of_lt_of_le h4 hb.size, fun j hj => ?_, fun j hj hk => ?_⟩
  · rw [hb.cell (p := ⟨g, j, none⟩) h4]; exact h5 j hj
  · rw [hb.cell (p := ⟨g, j, none⟩) h4, hb.frozen (p := ⟨g, j, none⟩) h4]; exact h6 j hj hk

theorem M_C {w : World} {base : Nat} {v : Value} {xs : List Int} (h : MRow w base v xs) : ∃ A c, v = .slice A xs.length c ∧ xs.length ≤ c ∧ Kd.C (Kd.int .u8) w A xs.length xs := by
  obtain ⟨g, cap, h0, h1, h2, h3, h4, h5, h6⟩ := h
  refine ⟨_, _, h0, h2, Kd.C_of_reads (d := (0 : Int)) ⟨rfl, Nat.le_trans h2 (by simpa [maxLen] using h3), fun _ => ⟨_, rfl, ?_⟩⟩⟩
  intro j hj
  rw [add_plain, h5 j hj]
  simp [rd, List.getD_eq_getElem?_getD]

theorem M_bytes (W : World) (e : TypeId) (s : ByteArray) (hm : s.size ≤ maxLen) :
    MRow (Lib.bytesWorld W e s) W.heap.size (.slice (some ⟨W.heap.size, 0, none⟩) s.size (grownCap W s.size 0 e)) (bytesOf s) := by
  have hc := grownCap_le_maxLen W s.size 0 e hm
  have hs := grownCap_ge W s.size 0 e
  have hl := bytesOf_length s
  have hsz : (Lib.bytesCells W e s).size = grownCap W s.size 0 e := by
    simp only [Lib.bytesCells, Array.size_append, Array.size_map, Array.size_replicate]
    have : s.data.size = s.size := rfl
    omega
  have hnew := Lib.bytesWorld_at_new W e s
  refine ⟨W.heap.size, grownCap W s.size 0 e, by rw [hl], Nat.le_refl _, by rw [hl]; exact hs, hc, by rw [Lib.bytesWorld_size]; omega, fun j hj => ?_, fun j hj hk => ?_⟩
  · rw [hl] at hj
    rw [Lib.bytesWorld_cell W e s j hj]
    have h' : j < s.data.toList.length := by rw [data_length]; exact hj
    simp [rd, bytesOf, List.getD_eq_getElem?_getD, List.getElem?_eq_getElem h']
  · constructor
    · rw [cell_of_row _ _ j _ _ _ hnew, Array.getElem?_eq_getElem (by omega)]; rfl
    · simp only [World.frozen?, hnew]
      simp
      omega

section
variable {P : Program} {ops : Array Oper} {rest : List Oper} {o : Oper} {a : Act} {Q : Exit → Act → World → Prop} {K : Act → World → Prop}
theorem wp_append_M (w0 W : World) (base : Nat) (s x : Operand) (t e : TypeId) (ho : o.op = .call { callee := .builtin .append, args := #[s, x], argTypes := #[t, t] })
    (ht : P.underlying t = some (.slice e)) (hinfo : (P.info? e).map (fun i => (i.zero, i.size, i.bytes)) = some (some (.int .u8 0), 1, 1)) (v : Value) (xs ys : List Int) (A : Option Addr) (c : Nat)
    (hs : a.eval s = v) (hx : a.eval x = .slice A ys.length c) (HM : MRow W base v xs) (HR : Kd.C (Kd.int .u8) W A ys.length ys) (hp : 0 < ys.length) (HB : Below base w0 W) (hbase : base ≤ W.heap.size)
    (hl : xs.length + ys.length ≤ 140737488355328)
    (h : ∀ v1 w1, MRow w1 base v1 (xs ++ ys) → Below base w0 w1 → K (a.put o.dst v1) w1) : Oper.wp P o a W K Q := by
  obtain ⟨i, hi, hz, hsz, hby⟩ := info_parts hinfo
  obtain ⟨ad, rfl, hsrc⟩ := C_src HR hp
  obtain ⟨g, cap, rfl, h1, h2, h3, h4, h5, h6⟩ := HM
  have hone : ∀ u ∈ ys.map (Value.int .u8), u.oneCell' = true := by intro u hu; obtain ⟨y, _, rfl⟩ := List.mem_map.1 hu; rfl
  by_cases hroom : xs.length + ys.length ≤ cap
  · have hrun := run_append_room_cells (P := P) W t o.type e i ht hi g 0 xs.length cap ad ys.length c (ys.map (Value.int .u8)) (by rw [hsz]; simp) hsrc hone hroom
      (fun j hj => by rw [hsz]; simp at hj ⊢; exact (h6 (xs.length + j) (by omega) (by omega)).1) (fun j hj => by rw [hsz]; simp at hj ⊢; exact (h6 (xs.length + j) (by omega) (by omega)).2)
    rw [hsz, Nat.mul_one, Nat.zero_add] at hrun
    unfold Oper.wp
    simp [execOp, ho, resolve, invoke, builtin, hs, hx, hrun, Result.andThen]
    refine h _ _ ?_ (Lib.below_setCells g h1 _ _ HB)
    refine ⟨g, cap, by rw [List.length_append], h1, by rw [List.length_append]; exact hroom, h3, ?_, fun j hj => ?_, fun j hj hk => ?_⟩
    · exact Nat.lt_of_lt_of_le h4 (Lib.below_setCells (B := 0) g (Nat.zero_le _) _ _ (Below.refl 0 W)).size
    · rw [List.length_append] at hj
      by_cases hjx : j < xs.length
      · rw [World.cell?_setCells_out g _ _ _ _ (fun _ _ => .inl hjx), h5 j hjx, rd_append hjx]
      · have hin := World.cell?_setCells_in g (ys.map (Value.int .u8)) xs.length W (fun k hk => by simp at hk; exact (h6 (xs.length + k) (by omega) (by omega)).1) (j - xs.length) (by simp; omega)
        rw [show xs.length + (j - xs.length) = j by omega] at hin
        rw [hin]
        have hlt : j - xs.length < ys.length := by omega
        simp [rd, List.getD_eq_getElem?_getD, List.getElem?_append_right (show xs.length ≤ j by omega), List.getElem?_eq_getElem hlt]
    · rw [List.length_append] at hj
      rw [World.frozen?_setCells]
      exact ⟨World.isSome_setCells g _ _ _ _ (h6 j (by omega) hk).1, (h6 j (by omega) hk).2⟩
  · obtain ⟨v', w', hrun, hown, hgr⟩ := run_append_arg_grows (P := P) W t o.type e i (.int .u8 0) 1 1 ht hi hz hsz hby rfl (by decide) ⟨g, 0, none⟩ xs.length cap (xs.map (Value.int .u8)) (by simp)
      (fun j u hu => by
        rw [List.getElem?_map] at hu
        have hj : j < xs.length := by
          rcases Nat.lt_or_ge j xs.length with h' | h'
          · exact h'
          · rw [List.getElem?_eq_none h'] at hu; cases hu
        rw [add_plain, h5 j hj]
        rw [List.getElem?_eq_getElem hj] at hu
        simp only [Option.map_some, Option.some.injEq] at hu
        subst hu
        simp [rd, List.getD_eq_getElem?_getD, List.getElem?_eq_getElem hj])
      ad ys.length c (ys.map (Value.int .u8)) (by simp) hsrc (by omega) (by unfold maxLen; omega) (by omega)
    unfold Oper.wp
    simp [execOp, ho, resolve, invoke, builtin, hs, hx, hrun, Result.andThen]
    refine h _ _ ?_ (HB.grown hgr hbase (by intro k hk; cases hk))
    obtain ⟨hlen, hcase⟩ := hown
    rcases hcase with ⟨_, h0⟩ | ⟨g', cap', cur, rfl, hb', hg', hnc, hcm, hcs, htk⟩
    · omega
    · have hcell : ∀ j, w'.cell? ⟨g', j, none⟩ = cur[j]? := fun j => cell_of_row _ _ j _ _ _ hg'
      refine ⟨g', cap', by rw [List.length_append], by omega, by rw [List.length_append]; exact hnc, hcm, (Array.getElem?_eq_some_iff.1 hg').1, fun j hj => ?_, fun j hj hk => ?_⟩
      · rw [hcell]
        have e : (cur.toList.take ((xs.length + ys.length) * 1))[j]? = cur[j]? := by
          rw [List.getElem?_take, if_pos (by rw [List.length_append] at hj; omega), Array.getElem?_toList]
        rw [← e, htk, ← List.map_append, List.getElem?_map, List.getElem?_eq_getElem hj]
        simp [rd, List.getD_eq_getElem?_getD, List.getElem?_eq_getElem hj]
      · constructor
        · rw [hcell, Array.getElem?_eq_getElem (by omega)]; rfl
        · simp only [World.frozen?, hg']; simp
end

end Go.Proofs.Ytenmjbcedadcbaa.Math
