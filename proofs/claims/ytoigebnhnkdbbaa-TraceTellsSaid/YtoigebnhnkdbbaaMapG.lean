/- Maps of the call's own, keys of any whole numbers' kind or strings: look-up, update, length. The session's own, on the model's entries. -/
import Derived.Test.YtoigebnhnkdbbaaPAllx0
import Derived.Test.YtoigebnhnkdbbaaBlocks
import Derived.MapKept
import Derived.ChangeMaps
namespace Go.Proofs.Ytoigebnhnkdbbaa.MapG
open Go.RowKit Go.Proofs.YtoigebnhnkdbbaaW.PrintWords Go.Proofs.YtoigebnhnkdbbaaW.PrintLast Go.Proofs.YtoigebnhnkdbbaaW.PrintMore Go.Proofs.Ytoigebnhnkdbbaa.Math
open Go.MapKept (Stamped IsKey stamped_empty stamped_push stamped_modify stamped_iff findNow_spec)
open Go.ChangeMaps (setBlock)
set_option linter.unusedVariables false
set_option linter.unusedSimpArgs false

/-- Keys of a kind. -/
structure MKey {α : Type} (d : TypeDesc) (enc : α → Value) : Prop where
  key : ∀ k, IsKey d (enc k)
  inj : ∀ a b, enc a = enc b → a = b
  bits : ∀ k, Instr.sameBits 10000 (enc k) (enc k) = true
theorem mkey_int (k : IntKind) : MKey (.int k) (Value.int k) := ⟨fun _ => rfl, fun a b h => by injection h, fun x => by simp [Instr.sameBits]⟩
theorem bytes_beq (x : ByteArray) : (x == x) = true := by
  show (x.data == x.data) = true
  exact beq_self_eq_true _
theorem mkey_string : MKey .string Value.string := ⟨fun _ => trivial, fun a b h => by injection h, fun x => by
  show (x == x) = true
  exact bytes_beq x⟩
section
variable {α : Type} {d : TypeDesc} {enc : α → Value}
/-- The entries hold just what 'f' tells. -/
structure MOk (enc : α → Value) (es : Array MapEntry) (clk : Nat) (f : α → Option Value) : Prop where
  st : Stamped es clk
  keys : ∀ x ∈ es.toList, ∃ k, x.key = enc k ∧ f k = some x.val
  find : ∀ k v, f k = some v → ∃ x ∈ es.toList, x.key = enc k ∧ x.val = v
theorem MOk.empty (enc : α → Value) (clk : Nat) : MOk enc #[] clk (fun _ => none) := ⟨stamped_empty clk, fun x hx => by simp at hx, fun k v h => by cases h⟩
theorem MOk.isKey (hK : MKey d enc) {es : Array MapEntry} {clk : Nat} {f : α → Option Value} (h : MOk enc es clk f) : ∀ x ∈ es.toList, IsKey d x.key := by
  intro x hx
  obtain ⟨k, hk, _⟩ := h.keys x hx
  rw [hk]
  exact hK.key k
theorem MOk.look (hK : MKey d enc) {es : Array MapEntry} {clk : Nat} {f : α → Option Value} (h : MOk enc es clk f) (k : α) :
    (Instr.findNow d (enc k) es.toList 0 = some none ∧ f k = none ∧ ∀ x ∈ es.toList, x.key ≠ enc k) ∨
    ∃ j e, Instr.findNow d (enc k) es.toList 0 = some (some (j, e.val)) ∧ es.toList[j]? = some e ∧ e.key = enc k ∧ f k = some e.val := by
  rcases findNow_spec (d := d) (k := enc k) (hK.key k) es.toList 0 (h.isKey hK) with ⟨h1, h2⟩ | ⟨j, e, h1, h2, h3⟩
  · refine Or.inl ⟨h1, ?_, h2⟩
    cases hf : f k with
    | none => rfl
    | some v =>
      obtain ⟨x, hx, hk, _⟩ := h.find k v hf
      exact absurd hk (h2 x hx)
  · refine Or.inr ⟨j, e, by rw [Nat.zero_add] at h1; exact h1, h2, h3, ?_⟩
    obtain ⟨k', hk', hf⟩ := h.keys e (List.mem_of_getElem? h2)
    rw [h3] at hk'
    rw [hK.inj _ _ hk']
    exact hf
theorem run_look {P : Program} (hKy : MKey d enc) {T K E : TypeId} (hT : P.underlying T = some (.map K E)) (hK : P.underlying K = some d) (z : Value) (w : World) (hz : (zeroValue E).run P w = .ok z w) {gm : Nat} {es : Array MapEntry} {clk : Nat} {f : α → Option Value}
    (hm : w.heap[gm]? = some (.map es clk)) (h : MOk enc es clk f) (k : α) :
    (Instr.lookup T (.map (some gm)) (enc k) true).run P w = .ok (.tuple #[(f k).getD z, .bool (f k).isSome]) w := by
  have hck : ∀ e, (Instr.checkKey e 10000 K (enc k)).run P w = .ok () w := fun e => Go.MapKept.run_checkKey (d := d) (k := enc k) hK (hKy.key k) e 9999
  rcases h.look hKy k with ⟨h1, h2, _⟩ | ⟨j, e, h1, _, _, h4⟩
  · simp [Instr.lookup, run_underlying hT, Go.MapKept.run_getObj_map hm, Result.andThen, hck, Go.MapKept.run_findKey hK h1, hz, h2]
  · simp [Instr.lookup, run_underlying hT, Go.MapKept.run_getObj_map hm, Result.andThen, hck, Go.MapKept.run_findKey hK h1, h4]
theorem run_look1 {P : Program} (hKy : MKey d enc) {T K E : TypeId} (hT : P.underlying T = some (.map K E)) (hK : P.underlying K = some d) (z : Value) (w : World) (hz : (zeroValue E).run P w = .ok z w) {gm : Nat} {es : Array MapEntry} {clk : Nat} {f : α → Option Value}
    (hm : w.heap[gm]? = some (.map es clk)) (h : MOk enc es clk f) (k : α) :
    (Instr.lookup T (.map (some gm)) (enc k) false).run P w = .ok ((f k).getD z) w := by
  have hck : ∀ e, (Instr.checkKey e 10000 K (enc k)).run P w = .ok () w := fun e => Go.MapKept.run_checkKey (d := d) (k := enc k) hK (hKy.key k) e 9999
  rcases h.look hKy k with ⟨h1, h2, _⟩ | ⟨j, e, h1, _, _, h4⟩
  · simp [Instr.lookup, run_underlying hT, Go.MapKept.run_getObj_map hm, Result.andThen, hck, Go.MapKept.run_findKey hK h1, hz, h2]
  · simp [Instr.lookup, run_underlying hT, Go.MapKept.run_getObj_map hm, Result.andThen, hck, Go.MapKept.run_findKey hK h1, h4]
theorem run_put {P : Program} (hKy : MKey d enc) [DecidableEq α] {T K E : TypeId} (hT : P.underlying T = some (.map K E)) (hK : P.underlying K = some d) (w : World) {gm : Nat} {es : Array MapEntry} {clk : Nat} {f : α → Option Value}
    (hm : w.heap[gm]? = some (.map es clk)) (h : MOk enc es clk f) (k : α) (v : Value) :
    ∃ es' clk', (Instr.mapUpdate T (.map (some gm)) (enc k) v).run P w = .ok () (setBlock w gm (.map es' clk')) ∧ MOk enc es' clk' (fun k' => if k' = k then some v else f k') ∧ es'.size = if (f k).isSome = true then es.size else es.size + 1 := by
  have hck : ∀ e, (Instr.checkKey e 10000 K (enc k)).run P w = .ok () w := fun e => Go.MapKept.run_checkKey (d := d) (k := enc k) hK (hKy.key k) e 9999
  rcases h.look hKy k with ⟨h1, h2, h3⟩ | ⟨j, e, h1, hj, h3, h4⟩
  · refine ⟨es.push { key := enc k, val := v, born := clk }, clk + 1, ?_, ⟨stamped_push h.st h3, ?_, ?_⟩, ?_⟩
    · simp [Instr.mapUpdate, run_underlying hT, Go.MapKept.run_getObj_map hm, Result.andThen, hck, Go.MapKept.run_findKey hK h1, Go.MapKept.run_setObj_map _ hm, setBlock]
    · intro x hx
      simp only [Array.toList_push, List.mem_append, List.mem_singleton] at hx
      rcases hx with hx | rfl
      · obtain ⟨k', hk', hf⟩ := h.keys x hx
        refine ⟨k', hk', ?_⟩
        rw [if_neg (fun hkk => h3 x hx (by rw [hk', hkk]))]
        exact hf
      · exact ⟨k, rfl, if_pos rfl⟩
    · intro k' v' hf
      by_cases hkk : k' = k
      · subst hkk
        rw [if_pos rfl] at hf
        injection hf with hf
        exact ⟨{ key := enc k', val := v, born := clk }, by simp, rfl, hf⟩
      · rw [if_neg hkk] at hf
        obtain ⟨x, hx, hk', hv⟩ := h.find k' v' hf
        exact ⟨x, by simp [Array.mem_toList_iff.1 hx], hk', hv⟩
    · rw [h2]
      simp
  · have hjl : es[j]? = some e := by rw [← Array.getElem?_toList]; exact hj
    have hks : (Instr.keyThatStays e.key (enc k)).run P w = .ok (enc k) w := by rw [h3]; simp [Instr.keyThatStays, hKy.bits k]
    have hstay : Stamped (es.modify j fun x => { x with key := enc k, val := v }) clk := stamped_modify h.st j _ (fun _ _ => rfl) (fun x _ hx => by rw [hjl] at hx; injection hx with hx; rw [← hx]; exact h3.symm)
    refine ⟨es.modify j fun x => { x with key := enc k, val := v }, clk, ?_, ⟨hstay, ?_, ?_⟩, ?_⟩
    · simp [Instr.mapUpdate, run_underlying hT, Go.MapKept.run_getObj_map hm, Result.andThen, hck, Go.MapKept.run_findKey hK h1, hjl, hks, Go.MapKept.run_setObj_map _ hm, setBlock]
    · intro x hx
      obtain ⟨i, hi⟩ := List.mem_iff_getElem?.1 hx
      rw [Array.getElem?_toList, Array.getElem?_modify] at hi
      by_cases hij : j = i
      · subst hij
        rw [if_pos rfl, hjl] at hi
        injection hi with hi
        subst hi
        exact ⟨k, rfl, if_pos rfl⟩
      · rw [if_neg hij] at hi
        have hxm : x ∈ es.toList := by rw [← Array.getElem?_toList] at hi; exact List.mem_of_getElem? hi
        obtain ⟨k', hk', hf⟩ := h.keys x hxm
        refine ⟨k', hk', ?_⟩
        rw [if_neg ?_]
        · exact hf
        · intro hkk
          have hnd := ((stamped_iff es clk).1 h.st).2.2
          have hil : i < es.toList.length := by rw [Array.getElem?_eq_some_iff] at hi; obtain ⟨h', _⟩ := hi; simpa using h'
          have hjl' : j < es.toList.length := (List.getElem?_eq_some_iff.1 hj).1
          have hei : es.toList[i] = x := by have := (List.getElem?_eq_some_iff.1 (show es.toList[i]? = some x by rw [Array.getElem?_toList]; exact hi)).2; exact this
          have hej : es.toList[j] = e := (List.getElem?_eq_some_iff.1 hj).2
          rcases Nat.lt_or_gt_of_ne hij with hlt | hlt
          · exact (List.pairwise_iff_getElem.1 hnd j i hjl' hil hlt) (by rw [hei, hej, h3, hk', hkk])
          · exact (List.pairwise_iff_getElem.1 hnd i j hil hjl' hlt) (by rw [hei, hej, h3, hk', hkk])
    · intro k' v' hf
      by_cases hkk : k' = k
      · subst hkk
        rw [if_pos rfl] at hf
        injection hf with hf
        refine ⟨{ e with key := enc k', val := v }, List.mem_of_getElem? (i := j) ?_, rfl, hf⟩
        rw [Array.getElem?_toList, Array.getElem?_modify, if_pos rfl, hjl]
        rfl
      · rw [if_neg hkk] at hf
        obtain ⟨x, hx, hk', hv⟩ := h.find k' v' hf
        obtain ⟨i, hi⟩ := List.mem_iff_getElem?.1 hx
        have hij : j ≠ i := by
          rintro rfl
          rw [hj] at hi
          injection hi with hi
          rw [← hi, h3] at hk'
          exact hkk (hKy.inj _ _ hk'.symm)
        refine ⟨x, List.mem_of_getElem? (i := i) ?_, hk', hv⟩
        rw [Array.getElem?_toList, Array.getElem?_modify, if_neg hij, ← Array.getElem?_toList]
        exact hi
    · rw [h4]
      simp
theorem heap_setBlock (w : World) (g k : Nat) (o : Obj) : (setBlock w g o).heap[k]? = if g = k ∧ k < w.heap.size then some o else w.heap[k]? := by
  simp only [setBlock]
  rw [Array.getElem?_setIfInBounds]
  by_cases h : g = k
  · subst h
    by_cases hl : g < w.heap.size
    · simp [hl]
    · simp [hl]
  · simp [h]
theorem size_setBlock (w : World) (g : Nat) (o : Obj) : (setBlock w g o).heap.size = w.heap.size := by simp [setBlock]
end
end Go.Proofs.Ytoigebnhnkdbbaa.MapG
