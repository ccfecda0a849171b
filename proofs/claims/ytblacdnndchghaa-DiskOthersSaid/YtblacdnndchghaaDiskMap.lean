/- A map from whole numbers to values, as the call's own: look-up, update, clear, and what a range over it does. The session's own, on the model's entries. -/
import Derived.Test.YtblacdnndchghaaPAllx0
import Derived.Test.YtblacdnndchghaaBlocks
import Derived.Maps.RangeRun
import Derived.MapKept
namespace Go.Proofs.Ytblacdnndchghaa.D
open Go.RowKit Go.Proofs.YtblacdnndchghaaW.PrintWords Go.Proofs.YtblacdnndchghaaW.PrintLast Go.Proofs.YtblacdnndchghaaW.PrintMore Go.Proofs.Ytblacdnndchghaa.Math
open Go.MapKept (Stamped IsKey stamped_empty stamped_push stamped_modify stamped_iff findNow_spec)
open Go.ChangeMaps (setBlock)
set_option linter.unusedVariables false
set_option linter.unusedSimpArgs false

/-- The entries hold just what 'f' tells. -/
structure MOk (es : Array MapEntry) (clk : Nat) (f : Int → Option Value) : Prop where
  st : Stamped es clk
  keys : ∀ x ∈ es.toList, ∃ k, x.key = .int .i64 k ∧ f k = some x.val
  find : ∀ k v, f k = some v → ∃ x ∈ es.toList, x.key = .int .i64 k ∧ x.val = v

theorem MOk.empty (clk : Nat) : MOk #[] clk (fun _ => none) := ⟨stamped_empty clk, fun x hx => by simp at hx, fun k v h => by cases h⟩

theorem MOk.isKey {es : Array MapEntry} {clk : Nat} {f : Int → Option Value} (h : MOk es clk f) : ∀ x ∈ es.toList, IsKey (.int .i64) x.key := by
  intro x hx
  obtain ⟨k, hk, _⟩ := h.keys x hx
  rw [hk]
  rfl

theorem MOk.look {es : Array MapEntry} {clk : Nat} {f : Int → Option Value} (h : MOk es clk f) (k : Int) :
    (Instr.findNow (.int .i64) (.int .i64 k) es.toList 0 = some none ∧ f k = none ∧ ∀ x ∈ es.toList, x.key ≠ .int .i64 k) ∨
    ∃ j e, Instr.findNow (.int .i64) (.int .i64 k) es.toList 0 = some (some (j, e.val)) ∧ es.toList[j]? = some e ∧ e.key = .int .i64 k ∧ f k = some e.val := by
  rcases findNow_spec (d := .int .i64) (k := .int .i64 k) rfl es.toList 0 h.isKey with ⟨h1, h2⟩ | ⟨j, e, h1, h2, h3⟩
  · refine Or.inl ⟨h1, ?_, h2⟩
    cases hf : f k with
    | none => rfl
    | some v =>
      obtain ⟨x, hx, hk, _⟩ := h.find k v hf
      exact absurd hk (h2 x hx)
  · refine Or.inr ⟨j, e, by rw [Nat.zero_add] at h1; exact h1, h2, h3, ?_⟩
    obtain ⟨k', hk', hf⟩ := h.keys e (List.mem_of_getElem? h2)
    rw [h3] at hk'
    injection hk' with _ hk'
    rw [hk']
    exact hf

theorem run_look {P : Program} {T K E : TypeId} (hT : P.underlying T = some (.map K E)) (hK : P.underlying K = some (.int .i64)) (z : Value) (w : World) (hz : (zeroValue E).run P w = .ok z w) {gm : Nat} {es : Array MapEntry} {clk : Nat} {f : Int → Option Value}
    (hm : w.heap[gm]? = some (.map es clk)) (h : MOk es clk f) (k : Int) :
    (Instr.lookup T (.map (some gm)) (.int .i64 k) true).run P w = .ok (.tuple #[(f k).getD z, .bool (f k).isSome]) w := by
  have hck : ∀ e, (Instr.checkKey e 10000 K (.int .i64 k)).run P w = .ok () w := fun e => Go.MapKept.run_checkKey (d := .int .i64) (k := .int .i64 k) hK (show IsKey (.int .i64) (.int .i64 k) from rfl) e 9999
  rcases h.look k with ⟨h1, h2, _⟩ | ⟨j, e, h1, _, _, h4⟩
  · simp [Instr.lookup, run_underlying hT, Go.MapKept.run_getObj_map hm, Result.andThen, hck, Go.MapKept.run_findKey hK h1, hz, h2]
  · simp [Instr.lookup, run_underlying hT, Go.MapKept.run_getObj_map hm, Result.andThen, hck, Go.MapKept.run_findKey hK h1, h4]

theorem run_put {P : Program} {T K E : TypeId} (hT : P.underlying T = some (.map K E)) (hK : P.underlying K = some (.int .i64)) (w : World) {gm : Nat} {es : Array MapEntry} {clk : Nat} {f : Int → Option Value}
    (hm : w.heap[gm]? = some (.map es clk)) (h : MOk es clk f) (k : Int) (v : Value) :
    ∃ es' clk', (Instr.mapUpdate T (.map (some gm)) (.int .i64 k) v).run P w = .ok () (setBlock w gm (.map es' clk')) ∧ MOk es' clk' (fun k' => if k' = k then some v else f k') := by
  have hck : ∀ e, (Instr.checkKey e 10000 K (.int .i64 k)).run P w = .ok () w := fun e => Go.MapKept.run_checkKey (d := .int .i64) (k := .int .i64 k) hK (show IsKey (.int .i64) (.int .i64 k) from rfl) e 9999
  rcases h.look k with ⟨h1, h2, h3⟩ | ⟨j, e, h1, hj, h3, h4⟩
  · refine ⟨es.push { key := .int .i64 k, val := v, born := clk }, clk + 1, ?_, stamped_push h.st h3, ?_, ?_⟩
    · simp [Instr.mapUpdate, run_underlying hT, Go.MapKept.run_getObj_map hm, Result.andThen, hck, Go.MapKept.run_findKey hK h1, Go.MapKept.run_setObj_map _ hm, setBlock]
    · intro x hx
      simp only [Array.toList_push, List.mem_append, List.mem_singleton] at hx
      rcases hx with hx | rfl
      · obtain ⟨k', hk', hf⟩ := h.keys x hx
        refine ⟨k', hk', ?_⟩
        rw [if_neg (fun hkk => h3 x hx (by rw [hk', hkk]))]
        exact hf
      · exact ⟨k, rfl, if_pos rfl⟩
    · intro k' v' hf
      by_cases hkk : k' = k
      · subst hkk
        rw [if_pos rfl] at hf
        injection hf with hf
        exact ⟨{ key := .int .i64 k', val := v, born := clk }, by simp, rfl, hf⟩
      · rw [if_neg hkk] at hf
        obtain ⟨x, hx, hk', hv⟩ := h.find k' v' hf
        exact ⟨x, by simp [Array.mem_toList_iff.1 hx], hk', hv⟩
  · have hjl : es[j]? = some e := by rw [← Array.getElem?_toList]; exact hj
    have hks : (Instr.keyThatStays e.key (.int .i64 k)).run P w = .ok (.int .i64 k) w := by rw [h3]; simp [Instr.keyThatStays, Instr.sameBits]
    have hstay : Stamped (es.modify j fun x => { x with key := .int .i64 k, val := v }) clk := stamped_modify h.st j _ (fun _ _ => rfl) (fun x _ hx => by rw [hjl] at hx; injection hx with hx; rw [← hx]; exact h3.symm)
    refine ⟨es.modify j fun x => { x with key := .int .i64 k, val := v }, clk, ?_, hstay, ?_, ?_⟩
    · simp [Instr.mapUpdate, run_underlying hT, Go.MapKept.run_getObj_map hm, Result.andThen, hck, Go.MapKept.run_findKey hK h1, hjl, hks, Go.MapKept.run_setObj_map _ hm, setBlock]
    · intro x hx
      obtain ⟨i, hi⟩ := List.mem_iff_getElem?.1 hx
      rw [Array.getElem?_toList, Array.getElem?_modify] at hi
      by_cases hij : j = i
      · subst hij
        rw [if_pos rfl, hjl] at hi
        injection hi with hi
        subst hi
        exact ⟨k, rfl, if_pos rfl⟩
      · rw [if_neg hij] at hi
        have hxm : x ∈ es.toList := by rw [← Array.getElem?_toList] at hi; exact List.mem_of_getElem? hi
        obtain ⟨k', hk', hf⟩ := h.keys x hxm
        refine ⟨k', hk', ?_⟩
        rw [if_neg ?_]
        · exact hf
        · intro hkk
          have hnd := ((stamped_iff es clk).1 h.st).2.2
          have hil : i < es.toList.length := by rw [Array.getElem?_eq_some_iff] at hi; obtain ⟨h', _⟩ := hi; simpa using h'
          have hjl' : j < es.toList.length := (List.getElem?_eq_some_iff.1 hj).1
          have hei : es.toList[i] = x := by have := (List.getElem?_eq_some_iff.1 (show es.toList[i]? = some x by rw [Array.getElem?_toList]; exact hi)).2; exact this
          have hej : es.toList[j] = e := (List.getElem?_eq_some_iff.1 hj).2
          rcases Nat.lt_or_gt_of_ne hij with hlt | hlt
          · exact (List.pairwise_iff_getElem.1 hnd j i hjl' hil hlt) (by rw [hei, hej, h3, hk', hkk])
          · exact (List.pairwise_iff_getElem.1 hnd i j hil hjl' hlt) (by rw [hei, hej, h3, hk', hkk])
    · intro k' v' hf
      by_cases hkk : k' = k
      · subst hkk
        rw [if_pos rfl] at hf
        injection hf with hf
        refine ⟨{ e with key := .int .i64 k', val := v }, List.mem_of_getElem? (i := j) ?_, rfl, hf⟩
        rw [Array.getElem?_toList, Array.getElem?_modify, if_pos rfl, hjl]
        rfl
      · rw [if_neg hkk] at hf
        obtain ⟨x, hx, hk', hv⟩ := h.find k' v' hf
        obtain ⟨i, hi⟩ := List.mem_iff_getElem?.1 hx
        have hij : j ≠ i := by
          rintro rfl
          rw [hj] at hi
          injection hi with hi
          rw [← hi, h3] at hk'
          injection hk' with _ hk'
          exact hkk hk'.symm
        refine ⟨x, List.mem_of_getElem? (i := i) ?_, hk', hv⟩
        rw [Array.getElem?_toList, Array.getElem?_modify, if_neg hij, ← Array.getElem?_toList]
        exact hi

theorem run_clear {P : Program} {T K E ty : TypeId} (hT : P.underlying T = some (.map K E)) (w : World) {gm : Nat} {es : Array MapEntry} {clk : Nat} (hm : w.heap[gm]? = some (.map es clk)) :
    (Builtin.clear_ #[T] ty #[.map (some gm)]).run P w = .ok (.tuple #[]) (setBlock w gm (.map #[] clk)) := by
  simp [Builtin.clear_, run_underlying hT, Go.MapKept.run_getObj_map hm, Result.andThen, Go.MapKept.run_setObj_map _ hm, setBlock]

theorem run_range {P : Program} {T K E : TypeId} (hT : P.underlying T = some (.map K E)) (w : World) {gm : Nat} {es : Array MapEntry} {clk : Nat} (hm : w.heap[gm]? = some (.map es clk)) :
    (Instr.range T (.map (some gm))).run P w = .ok (.pointer (some ⟨w.heap.size, 0, none⟩)) (w.alloc (.mapIter (some gm) clk #[] clk)) := by
  simp [Instr.range, run_underlying hT, Go.MapKept.run_getObj_map hm, Result.andThen]

end Go.Proofs.Ytblacdnndchghaa.D
