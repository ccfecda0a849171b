/- Maps of the call's own, keys of any whole numbers' kind or strings: look-up, update, length. The session's own, on the model's entries. -/
import Derived.Test.YtffggkhahambhaaPAllx0
import Derived.Test.YtffggkhahambhaaBlocks
import Derived.MapKept
import Derived.ChangeMaps
import Derived.Test.YtffggkhahambhaaSpBase
import Derived.Carry
import Derived.Test.YtffggkhahambhaaExtCmp
import Derived.Test.YtffggkhahambhaaPAllx4
import Derived.Test.YtffggkhahambhaaPAllx5
namespace Go.Proofs.Ytffggkhahambhaa.MapG
open Go.RowKit Go.Proofs.YtffggkhahambhaaW.PrintWords Go.Proofs.YtffggkhahambhaaW.PrintLast Go.Proofs.YtffggkhahambhaaW.PrintMore Go.Proofs.Ytffggkhahambhaa.Math
open Go.MapKept (Stamped IsKey stamped_empty stamped_push stamped_modify stamped_iff findNow_spec)
open Go.ChangeMaps (setBlock)
set_option linter.unusedVariables false
set_option linter.unusedSimpArgs false

/-- Keys of a kind. -/
structure MKey {α : Type} (d : TypeDesc) (enc : α → Value) : Prop where
  key : ∀ k, IsKey d (enc k)
  inj : ∀ a b, enc a = enc b → a = b
  bits : ∀ k, Instr.sameBits 10000 (enc k) (enc k) = true
theorem bytes_beq (x : ByteArray) : (x == x) = true := by
  show (x.data == x.data) = true
  exact beq_self_eq_true _
theorem mkey_string : MKey .string Value.string := ⟨fun _ => trivial, fun a b h => by injection h, fun x => by
  show (x == x) = true
  exact bytes_beq x⟩
section
variable {α : Type} {d : TypeDesc} {enc : α → Value}
/-- The entries hold just what 'f' tells. -/
structure MOk (enc : α → Value) (es : Array MapEntry) (clk : Nat) (f : α → Option Value) : Prop where
  st : Stamped es clk
  keys : ∀ x ∈ es.toList, ∃ k, x.key = enc k ∧ f k = some x.val
  find : ∀ k v, f k = some v → ∃ x ∈ es.toList, x.key = enc k ∧ x.val = v
theorem MOk.empty (enc : α → Value) (clk : Nat) : MOk enc #[] clk (fun _ => none) := ⟨stamped_empty clk, fun x hx => by simp at hx, fun k v h => by cases h⟩
theorem MOk.isKey (hK : MKey d enc) {es : Array MapEntry} {clk : Nat} {f : α → Option Value} (h : MOk enc es clk f) : ∀ x ∈ es.toList, IsKey d x.key := by
  intro x hx
  obtain ⟨k, hk, _⟩ := h.keys x hx
  rw [hk]
  exact hK.key k
theorem MOk.look (hK : MKey d enc) {es : Array MapEntry} {clk : Nat} {f : α → Option Value} (h : MOk enc es clk f) (k : α) :
    (Instr.findNow d (enc k) es.toList 0 = some none ∧ f k = none ∧ ∀ x ∈ es.toList, x.key ≠ enc k) ∨
    ∃ j e, Instr.findNow d (enc k) es.toList 0 = some (some (j, e.val)) ∧ es.toList[j]? = some e ∧ e.key = enc k ∧ f k = some e.val := by
  rcases findNow_spec (d := d) (k := enc k) (hK.key k) es.toList 0 (h.isKey hK) with ⟨h1, h2⟩ | ⟨j, e, h1, h2, h3⟩
  · refine Or.inl ⟨h1, ?_, h2⟩
    cases hf : f k with
    | none => rfl
    | some v =>
      obtain ⟨x, hx, hk, _⟩ := h.find k v hf
      exact absurd hk (h2 x hx)
  · refine Or.inr ⟨j, e, by rw [Nat.zero_add] at h1; exact h1, h2, h3, ?_⟩
    obtain ⟨k', hk', hf⟩ := h.keys e (List.mem_of_getElem? h2)
    rw [h3] at hk'
    rw [hK.inj _ _ hk']
    exact hf
theorem run_look {P : Program} (hKy : MKey d enc) {T K E : TypeId} (hT : P.underlying T = some (.map K E)) (hK : P.underlying K = some d) (z : Value) (w : World) (hz : (zeroValue E).run P w = .ok z w) {gm : Nat} {es : Array MapEntry} {clk : Nat} {f : α → Option Value}
    (hm : w.heap[gm]? = some (.map es clk)) (h : MOk enc es clk f) (k : α) :
    (Instr.lookup T (.map (some gm)) (enc k) true).run P w = .ok (.tuple #[(f k).getD z, .bool (f k).isSome]) w := by
  have hck : ∀ e, (Instr.checkKey e 10000 K (enc k)).run P w = .ok () w := fun e => Go.MapKept.run_checkKey (d := d) (k := enc k) hK (hKy.key k) e 9999
  rcases h.look hKy k with ⟨h1, h2, _⟩ | ⟨j, e, h1, _, _, h4⟩
  · simp [Instr.lookup, run_underlying hT, Go.MapKept.run_getObj_map hm, Result.andThen, hck, Go.MapKept.run_findKey hK h1, hz, h2]
  · simp [Instr.lookup, run_underlying hT, Go.MapKept.run_getObj_map hm, Result.andThen, hck, Go.MapKept.run_findKey hK h1, h4]
theorem run_put {P : Program} (hKy : MKey d enc) [DecidableEq α] {T K E : TypeId} (hT : P.underlying T = some (.map K E)) (hK : P.underlying K = some d) (w : World) {gm : Nat} {es : Array MapEntry} {clk : Nat} {f : α → Option Value}
    (hm : w.heap[gm]? = some (.map es clk)) (h : MOk enc es clk f) (k : α) (v : Value) :
    ∃ es' clk', (Instr.mapUpdate T (.map (some gm)) (enc k) v).run P w = .ok () (setBlock w gm (.map es' clk')) ∧ MOk enc es' clk' (fun k' => if k' = k then some v else f k') ∧ es'.size = if (f k).isSome = true then es.size else es.size + 1 := by
  have hck : ∀ e, (Instr.checkKey e 10000 K (enc k)).run P w = .ok () w := fun e => Go.MapKept.run_checkKey (d := d) (k := enc k) hK (hKy.key k) e 9999
  rcases h.look hKy k with ⟨h1, h2, h3⟩ | ⟨j, e, h1, hj, h3, h4⟩
  · refine ⟨es.push { key := enc k, val := v, born := clk }, clk + 1, ?_, ⟨stamped_push h.st h3, ?_, ?_⟩, ?_⟩
    · simp [Instr.mapUpdate, run_underlying hT, Go.MapKept.run_getObj_map hm, Result.andThen, hck, Go.MapKept.run_findKey hK h1, Go.MapKept.run_setObj_map _ hm, setBlock]
    · intro x hx
      simp only [Array.toList_push, List.mem_append, List.mem_singleton] at hx
      rcases hx with hx | rfl
      · obtain ⟨k', hk', hf⟩ := h.keys x hx
        refine ⟨k', hk', ?_⟩
        rw [if_neg (fun hkk => h3 x hx (by rw [hk', hkk]))]
        exact hf
      · exact ⟨k, rfl, if_pos rfl⟩
    · intro k' v' hf
      by_cases hkk : k' = k
      · subst hkk
        rw [if_pos rfl] at hf
        injection hf with hf
        exact ⟨{ key := enc k', val := v, born := clk }, by simp, rfl, hf⟩
      · rw [if_neg hkk] at hf
        obtain ⟨x, hx, hk', hv⟩ := h.find k' v' hf
        exact ⟨x, by simp [Array.mem_toList_iff.1 hx], hk', hv⟩
    · rw [h2]
      simp
  · have hjl : es[j]? = some e := by rw [← Array.getElem?_toList]; exact hj
    have hks : (Instr.keyThatStays e.key (enc k)).run P w = .ok (enc k) w := by rw [h3]; simp [Instr.keyThatStays, hKy.bits k]
    have hstay : Stamped (es.modify j fun x => { x with key := enc k, val := v }) clk := stamped_modify h.st j _ (fun _ _ => rfl) (fun x _ hx => by rw [hjl] at hx; injection hx with hx; rw [← hx]; exact h3.symm)
    refine ⟨es.modify j fun x => { x with key := enc k, val := v }, clk, ?_, ⟨hstay, ?_, ?_⟩, ?_⟩
    · simp [Instr.mapUpdate, run_underlying hT, Go.MapKept.run_getObj_map hm, Result.andThen, hck, Go.MapKept.run_findKey hK h1, hjl, hks, Go.MapKept.run_setObj_map _ hm, setBlock]
    · intro x hx
      obtain ⟨i, hi⟩ := List.mem_iff_getElem?.1 hx
      rw [Array.getElem?_toList, Array.getElem?_modify] at hi
      by_cases hij : j = i
      · subst hij
        rw [if_pos rfl, hjl] at hi
        injection hi with hi
        subst hi
        exact ⟨k, rfl, if_pos rfl⟩
      · rw [if_neg hij] at hi
        have hxm : x ∈ es.toList := by rw [← Array.getElem?_toList] at hi; exact List.mem_of_getElem? hi
        obtain ⟨k', hk', hf⟩ := h.keys x hxm
        refine ⟨k', hk', ?_⟩
        rw [if_neg ?_]
        · exact hf
        · intro hkk
          have hnd := ((stamped_iff es clk).1 h.st).2.2
          have hil : i < es.toList.length := by rw [Array.getElem?_eq_some_iff] at hi; obtain ⟨h', _⟩ := hi; simpa using h'
          have hjl' : j < es.toList.length := (List.getElem?_eq_some_iff.1 hj).1
          have hei : es.toList[i] = x := by have := (List.getElem?_eq_some_iff.1 (show es.toList[i]? = some x by rw [Array.getElem?_toList]; exact hi)).2; exact this
          have hej : es.toList[j] = e := (List.getElem?_eq_some_iff.1 hj).2
          rcases Nat.lt_or_gt_of_ne hij with hlt | hlt
          · exact (List.pairwise_iff_getElem.1 hnd j i hjl' hil hlt) (by rw [hei, hej, h3, hk', hkk])
          · exact (List.pairwise_iff_getElem.1 hnd i j hil hjl' hlt) (by rw [hei, hej, h3, hk', hkk])
    · intro k' v' hf
      by_cases hkk : k' = k
      · subst hkk
        rw [if_pos rfl] at hf
        injection hf with hf
        refine ⟨{ e with key := enc k', val := v }, List.mem_of_getElem? (i := j) ?_, rfl, hf⟩
        rw [Array.getElem?_toList, Array.getElem?_modify, if_pos rfl, hjl]
        rfl
      · rw [if_neg hkk] at hf
        obtain ⟨x, hx, hk', hv⟩ := h.find k' v' hf
        obtain ⟨i, hi⟩ := List.mem_iff_getElem?.1 hx
        have hij : j ≠ i := by
          rintro rfl
          rw [hj] at hi
          injection hi with hi
          rw [← hi, h3] at hk'
          exact hkk (hKy.inj _ _ hk'.symm)
        refine ⟨x, List.mem_of_getElem? (i := i) ?_, hk', hv⟩
        rw [Array.getElem?_toList, Array.getElem?_modify, if_neg hij, ← Array.getElem?_toList]
        exact hi
    · rw [h4]
      simp
theorem heap_setBlock (w : World) (g k : Nat) (o : Obj) : (setBlock w g o).heap[k]? = if g = k ∧ k < w.heap.size then some o else w.heap[k]? := by
  simp only [setBlock]
  rw [Array.getElem?_setIfInBounds]
  by_cases h : g = k
  · subst h
    by_cases hl : g < w.heap.size
    · simp [hl]
    · simp [hl]
  · simp [h]
theorem size_setBlock (w : World) (g : Nat) (o : Obj) : (setBlock w g o).heap.size = w.heap.size := by simp [setBlock]
end
end Go.Proofs.Ytffggkhahambhaa.MapG

namespace Go.Proofs.Ytffggkhahambhaa.Tr
open Go.RowKit Go.Proofs.YtffggkhahambhaaW.PrintWords Go.Proofs.YtffggkhahambhaaW.PrintLast Go.Proofs.YtffggkhahambhaaW.PrintMore Go.Proofs.Ytffggkhahambhaa.Math Go.Proofs.Ytffggkhahambhaa.PAll Go.Proofs.Ytffggkhahambhaa.MapG
open Go.ChangeMaps (setBlock)
set_option linter.unusedVariables false
set_option linter.unusedSimpArgs false
/-- A span's numbers, by their names. -/
def numF (s : Sp) (k : ByteArray) : Option Value := if k = (⟨#[112, 97, 114, 101, 110, 116]⟩ : ByteArray) then some (.int .u64 s.par) else if k = (⟨#[105, 100]⟩ : ByteArray) then some (.int .u64 s.id) else if k = (⟨#[116, 114, 97, 99, 101]⟩ : ByteArray) then some (.int .u64 s.tr) else if k = (⟨#[115, 116, 97, 114, 116]⟩ : ByteArray) then some (.int .u64 (IntKind.u64.wrap s.st)) else if k = (⟨#[100, 117, 114]⟩ : ByteArray) then some (.int .u64 (IntKind.u64.wrap s.du)) else if k = (⟨#[115, 116, 97, 116, 117, 115]⟩ : ByteArray) then some (.int .u64 (IntKind.u64.wrap s.stt)) else none
theorem num_step {w W : World} {n : Nat} {o : Obj} {es : Array MapEntry} {clk : Nat} {f : ByteArray → Option Value} (hn : w.heap.size = n) (h1 : W.heap[n]? = some o) (h2 : W.heap[n + 1]? = some (.map es clk)) (hb : Below n w W) (hm : MOk Value.string es clk f) (k : ByteArray) (v : Value) :
    ∃ es' clk' W', (Instr.mapUpdate 64 (.map (some (n + 1))) (.string k) v).run Try.prog W = .ok () W' ∧ W'.heap[n]? = some o ∧ W'.heap[n + 1]? = some (.map es' clk') ∧ Below n w W' ∧ MOk Value.string es' clk' (fun k' => if k' = k then some v else f k') := by
  obtain ⟨es', clk', hp, hm', _⟩ := run_put (P := Try.prog) mkey_string Try.underlying64 Try.underlying9 W h2 hm k v
  have hlt : n + 1 < W.heap.size := by
    rcases Nat.lt_or_ge (n + 1) W.heap.size with h | h
    · exact h
    · rw [Array.getElem?_eq_none h] at h2; cases h2
  refine ⟨es', clk', _, hp, ?_, ?_, ⟨hb.os, hb.tape, hb.output, by rw [size_setBlock]; exact hb.size, fun k hk => ?_⟩, hm'⟩
  · rw [heap_setBlock, if_neg (fun e => by have := e.1; omega)]; exact h1
  · rw [heap_setBlock, if_pos ⟨rfl, hlt⟩]
  · rw [heap_setBlock, if_neg (fun e => by have := e.1; omega)]; exact hb.block k hk
set_option maxHeartbeats 4000000 in
set_option maxRecDepth 100000 in
theorem numbers_calls (s : Sp) (w : World) : Calls Try.prog 36 #[.agg (encS s).toArray] w fun e w' => ∃ g es clk, e = .returned (.map (some g)) ∧ w'.heap[g]? = some (.map es clk) ∧ MOk Value.string es clk (numF s) ∧ Below w.heap.size w w' := by
  obtain ⟨n, hn⟩ : ∃ n, w.heap.size = n := ⟨_, rfl⟩
  have sz : ∀ (W : World) (o : Obj), (W.alloc o).heap.size = W.heap.size + 1 := fun W o => by simp
  have h1 := block_below (heap_alloc_new w (.cells (encS s).toArray 34)) (below_alloc (Below.refl _ _) (.map #[] 0))
  have h2 := heap_alloc_new (w.alloc (.cells (encS s).toArray 34)) (.map #[] 0)
  rw [sz] at h2
  rw [hn] at h1 h2
  have hb : Below n w ((w.alloc (.cells (encS s).toArray 34)).alloc (.map #[] 0)) := by
    rw [← hn]
    exact below_alloc (below_alloc (Below.refl _ _) _) _
  rw [arr_S] at h1 h2 hb ⊢
  have y0 := ((blk_cell h1 7).trans rfl : ((w.alloc (.cells #[.int .u64 s.tr, .int .u64 s.id, .int .u64 s.par, .string s.svc, .string s.op, .int .i64 s.st, .int .i64 s.du, .int .i64 s.stt, .slice s.a.1 s.a.2.1 s.a.2.2, .slice s.e.1 s.e.2.1 s.e.2.2, .slice s.l.1 s.l.2.1 s.l.2.2] 34)).alloc (.map #[] 0)).cell? ⟨n, 7, none⟩ = some (.int .i64 s.stt))
  obtain ⟨es1, clk1, W1, hp1, b1, m1, hb1, mo1⟩ := num_step hn h1 h2 hb (MOk.empty Value.string 0) (⟨#[115, 116, 97, 116, 117, 115]⟩) (.int .u64 (IntKind.u64.wrap s.stt))
  have y1 : W1.cell? ⟨n, 6, none⟩ = some (.int .i64 s.du) := (blk_cell b1 6).trans rfl
  obtain ⟨es2, clk2, W2, hp2, b2, m2, hb2, mo2⟩ := num_step hn b1 m1 hb1 (mo1) (⟨#[100, 117, 114]⟩) (.int .u64 (IntKind.u64.wrap s.du))
  have y2 : W2.cell? ⟨n, 5, none⟩ = some (.int .i64 s.st) := (blk_cell b2 5).trans rfl
  obtain ⟨es3, clk3, W3, hp3, b3, m3, hb3, mo3⟩ := num_step hn b2 m2 hb2 (mo2) (⟨#[115, 116, 97, 114, 116]⟩) (.int .u64 (IntKind.u64.wrap s.st))
  have y3 : W3.cell? ⟨n, 0, none⟩ = some (.int .u64 s.tr) := (blk_cell b3 0).trans rfl
  obtain ⟨es4, clk4, W4, hp4, b4, m4, hb4, mo4⟩ := num_step hn b3 m3 hb3 (mo3) (⟨#[116, 114, 97, 99, 101]⟩) (.int .u64 s.tr)
  have y4 : W4.cell? ⟨n, 1, none⟩ = some (.int .u64 s.id) := (blk_cell b4 1).trans rfl
  obtain ⟨es5, clk5, W5, hp5, b5, m5, hb5, mo5⟩ := num_step hn b4 m4 hb4 (mo4) (⟨#[105, 100]⟩) (.int .u64 s.id)
  have y5 : W5.cell? ⟨n, 2, none⟩ = some (.int .u64 s.par) := (blk_cell b5 2).trans rfl
  obtain ⟨es6, clk6, W6, hp6, b6, m6, hb6, mo6⟩ := num_step hn b5 m5 hb5 (mo5) (⟨#[112, 97, 114, 101, 110, 116]⟩) (.int .u64 s.par)
  have MO := Lib.hid mo6
  have HM := Lib.hid m6
  have HB := Lib.hid hb6
  clear mo1 m1 hb1 mo2 m2 hb2 mo3 m3 hb3 mo4 m4 hb4 mo5 m5 hb5 mo6 m6 hb6 b1 b2 b3 b4 b5 b6 h1 h2 hb sz
  have HN := Lib.hid hn
  rw [← hn] at y0 hp1 y1 hp2 y2 hp3 y3 hp4 y4 hp5 y5 hp6
  clear hn
  have hmm := @run_makeMap Try.prog
  go_enter Try.func36, Try.ntmps36
  go_wp2
  go_ret
  exact ⟨_, es6, clk6, rfl, by rw [HN.out]; exact HM.out, MO.out, by rw [HN.out]; exact HB.out⟩
end Go.Proofs.Ytffggkhahambhaa.Tr

namespace Go.Proofs.Ytffggkhahambhaa.Tr
open Go.RowKit Go.Proofs.YtffggkhahambhaaW.PrintWords Go.Proofs.YtffggkhahambhaaW.PrintLast Go.Proofs.YtffggkhahambhaaW.PrintMore Go.Proofs.Ytffggkhahambhaa.Math Go.Proofs.Ytffggkhahambhaa.PAll Go.Proofs.Ytffggkhahambhaa.MapG Go.Proofs.Ytffggkhahambhaa.Span Go.Proofs.Ytffggkhahambhaa.PLow
set_option linter.unusedVariables false
set_option linter.unusedSimpArgs false
def numI (a0 a1 a2 a5 a6 a7 : Int) (k : ByteArray) : Option Int := if k = (⟨#[112, 97, 114, 101, 110, 116]⟩ : ByteArray) then some a2 else if k = (⟨#[105, 100]⟩ : ByteArray) then some a1 else if k = (⟨#[116, 114, 97, 99, 101]⟩ : ByteArray) then some a0 else if k = (⟨#[115, 116, 97, 114, 116]⟩ : ByteArray) then some (IntKind.u64.wrap a5) else if k = (⟨#[100, 117, 114]⟩ : ByteArray) then some (IntKind.u64.wrap a6) else if k = (⟨#[115, 116, 97, 116, 117, 115]⟩ : ByteArray) then some (IntKind.u64.wrap a7) else none
theorem numF_eq (s : Sp) (k : ByteArray) : numF s k = (numI s.tr s.id s.par s.st s.du s.stt k).map (Value.int .u64) := by
  unfold numF numI
  repeat' split
  all_goals rfl

set_option maxHeartbeats 8000000 in
set_option maxRecDepth 1000000 in
theorem holds_num (t0 : ByteArray) (t1 t2 : Int) (t3 : ByteArray) (t4 : Int) (t5 : Bool) (a0 a1 a2 : Int) (a3 a4 : ByteArray) (a5 a6 a7 : Int) (A8 : Option Addr) (c8 : Nat) (l8 : List S45) (A9 : Option Addr) (c9 : Nat) (l9 : List S77) (A10 : Option Addr) (c10 : Nat) (l10 : List S80) (n : Int) (r : Bool) (w : World) (hn : numI a0 a1 a2 a5 a6 a7 t0 = some n) (hr : filter_holds.f t1 (if 9223372036854775807 < n then 1 else cmpI (wrap64 n) t4) = some r) : Calls Try.prog 15 #[.agg #[.string t0, .int .i64 t1, .int .i64 t2, .string t3, .int .i64 t4, .bool t5], .agg #[.int .u64 a0, .int .u64 a1, .int .u64 a2, .string a3, .string a4, .int .i64 a5, .int .i64 a6, .int .i64 a7, .slice A8 l8.length c8, .slice A9 l9.length c9, .slice A10 l10.length c10]] w fun e w' => e = .returned (.bool r) ∧ Below w.heap.size w w' := by
  have HNUM := Lib.hid (show numF (⟨a0, a1, a2, a3, a4, a5, a6, a7, (A8, l8.length, c8), (A9, l9.length, c9), (A10, l10.length, c10)⟩ : Sp) t0 = some (.int .u64 n) by rw [numF_eq]; show (numI a0 a1 a2 a5 a6 a7 t0).map _ = _; rw [hn]; rfl)
  have HR := Lib.hid hr
  clear hn hr
  have hgr := below_alloc (below_alloc (Below.refl w.heap.size w) (.cells #[.string t0, .int .i64 t1, .int .i64 t2, .string t3, .int .i64 t4, .bool t5] 41)) (.cells #[.int .u64 a0, .int .u64 a1, .int .u64 a2, .string a3, .string a4, .int .i64 a5, .int .i64 a6, .int .i64 a7, .slice A8 l8.length c8, .slice A9 l9.length c9, .slice A10 l10.length c10] 34)
  have k1 : ((w.alloc (.cells #[.string t0, .int .i64 t1, .int .i64 t2, .string t3, .int .i64 t4, .bool t5] 41)).alloc (.cells #[.int .u64 a0, .int .u64 a1, .int .u64 a2, .string a3, .string a4, .int .i64 a5, .int .i64 a6, .int .i64 a7, .slice A8 l8.length c8, .slice A9 l9.length c9, .slice A10 l10.length c10] 34)).heap[w.heap.size]? = some (.cells #[.string t0, .int .i64 t1, .int .i64 t2, .string t3, .int .i64 t4, .bool t5] 41 (0, 0)) := block_below (heap_alloc_new w _) (below_alloc (Below.refl _ _) _)
  have k2 : ((w.alloc (.cells #[.string t0, .int .i64 t1, .int .i64 t2, .string t3, .int .i64 t4, .bool t5] 41)).alloc (.cells #[.int .u64 a0, .int .u64 a1, .int .u64 a2, .string a3, .string a4, .int .i64 a5, .int .i64 a6, .int .i64 a7, .slice A8 l8.length c8, .slice A9 l9.length c9, .slice A10 l10.length c10] 34)).heap[(w.alloc (.cells #[.string t0, .int .i64 t1, .int .i64 t2, .string t3, .int .i64 t4, .bool t5] 41)).heap.size]? = some (.cells #[.int .u64 a0, .int .u64 a1, .int .u64 a2, .string a3, .string a4, .int .i64 a5, .int .i64 a6, .int .i64 a7, .slice A8 l8.length c8, .slice A9 l9.length c9, .slice A10 l10.length c10] 34 (0, 0)) := heap_alloc_new _ _
  rw [show (w.alloc (.cells #[.string t0, .int .i64 t1, .int .i64 t2, .string t3, .int .i64 t4, .bool t5] 41)).heap.size = w.heap.size + 1 by simp] at k2
  have HG := Lib.hid hgr
  have K1 := Lib.hid k1
  have K2 := Lib.hid k2
  clear hgr k1 k2
  go_enter Try.func15, Try.ntmps15
  go_wp2
  have k1 := blk_drew K1.out
  have k2 := blk_drew K2.out
  have hg := below_drew1 HG.out
  refine start_ (n := 10) (S := fun w' => w'.cell? ⟨w.heap.size, 0, none⟩ = some (.string t0) ∧ w'.cell? ⟨w.heap.size + 1, 0, none⟩ = some (.int .u64 a0) ∧ w'.cell? ⟨w.heap.size + 1, 1, none⟩ = some (.int .u64 a1) ∧ w'.cell? ⟨w.heap.size + 1, 2, none⟩ = some (.int .u64 a2) ∧ w'.cell? ⟨w.heap.size + 1, 3, none⟩ = some (.string a3) ∧ w'.cell? ⟨w.heap.size + 1, 4, none⟩ = some (.string a4) ∧ w'.cell? ⟨w.heap.size + 1, 5, none⟩ = some (.int .i64 a5) ∧ w'.cell? ⟨w.heap.size + 1, 6, none⟩ = some (.int .i64 a6) ∧ w'.cell? ⟨w.heap.size + 1, 7, none⟩ = some (.int .i64 a7) ∧ w'.cell? ⟨w.heap.size + 1, 8, none⟩ = some (.slice A8 l8.length c8) ∧ w'.cell? ⟨w.heap.size + 1, 9, none⟩ = some (.slice A9 l9.length c9) ∧ w'.cell? ⟨w.heap.size + 1, 10, none⟩ = some (.slice A10 l10.length c10)) (ds := []) #[false, false, false, false, false, false, false, false, false, false] (by kernel_rfl) rfl rfl ⟨(blk_cell k1 0).trans rfl, (blk_cell k2 0).trans rfl, (blk_cell k2 1).trans rfl, (blk_cell k2 2).trans rfl, (blk_cell k2 3).trans rfl, (blk_cell k2 4).trans rfl, (blk_cell k2 5).trans rfl, (blk_cell k2 6).trans rfl, (blk_cell k2 7).trans rfl, (blk_cell k2 8).trans rfl, (blk_cell k2 9).trans rfl, (blk_cell k2 10).trans rfl⟩ (fun hHeld => ?_)
  generalize ((w.alloc (.cells #[.string t0, .int .i64 t1, .int .i64 t2, .string t3, .int .i64 t4, .bool t5] 41)).alloc (.cells #[.int .u64 a0, .int .u64 a1, .int .u64 a2, .string a3, .string a4, .int .i64 a5, .int .i64 a6, .int .i64 a7, .slice A8 l8.length c8, .slice A9 l9.length c9, .slice A10 l10.length c10] 34)).drew = w5 at k1 k2 hg hHeld ⊢
  have K15 := Lib.hid k1
  have K25 := Lib.hid k2
  have HG5 := Lib.hid hg
  clear k1 k2 hg
  refine pure_ (i := 2) (N := some 13) (v := ?_) (a' := ?_) #[false, false, true, false, false, false, false, false, false, false] rfl rfl (by kernel_rfl) (fun _ _ _ h => h) (Or.inl ⟨by rfl, ?_⟩) ?_ ?_
  rotate_left
  · intro w'
    go_simp
    with_reducible rfl
  rotate_left
  · simp only [Act.put, List.setIfInBounds_toArray, List.set_cons_zero, List.set_cons_succ, i64_w, i32_w]
    rfl
  refine take_ (i := 0) (N := some 11) (v := ?_) (a' := ?_) #[true, false, true, false, false, false, false, false, false, false] rfl rfl (by kernel_rfl) (fun _ _ _ h => h) (Or.inl ⟨by rfl, ?_⟩) hHeld ?_ ?_
  rotate_left
  · rintro w' ⟨s0, s1, s2, s3, s4, s5, s6, s7, s8, s9, s10, s11⟩
    go_simp
    with_reducible rfl
  rotate_left
  · simp only [Act.put, List.setIfInBounds_toArray, List.set_cons_zero, List.set_cons_succ, i64_w, i32_w]
    rfl
  refine take_ (i := 3) (N := some 14) (v := ?_) (a' := ?_) #[true, false, true, true, false, false, false, false, false, false] rfl rfl (by kernel_rfl) (fun _ _ _ h => h) (Or.inl ⟨by rfl, ?_⟩) hHeld ?_ ?_
  rotate_left
  · rintro w' ⟨s0, s1, s2, s3, s4, s5, s6, s7, s8, s9, s10, s11⟩
    go_simp
    with_reducible rfl
  rotate_left
  · simp only [Act.put, List.setIfInBounds_toArray, List.set_cons_zero, List.set_cons_succ, i64_w, i32_w]
    rfl
  refine one_ (i := 1) (N := some 12) #[true, true, true, true, false, false, false, false, false, false] rfl rfl (by kernel_rfl) (by decide) (fun K hK => ?_)
  have hnum := numbers_calls (⟨a0, a1, a2, a3, a4, a5, a6, a7, (A8, l8.length, c8), (A9, l9.length, c9), (A10, l10.length, c10)⟩ : Sp) w5
  rw [arr_S] at hnum
  dsimp only at hnum
  refine goes_ Try.func36 (by kernel_rfl) rfl #[.agg #[.int .u64 a0, .int .u64 a1, .int .u64 a2, .string a3, .string a4, .int .i64 a5, .int .i64 a6, .int .i64 a7, .slice A8 l8.length c8, .slice A9 l9.length c9, .slice A10 l10.length c10]] (by rfl) rfl rfl (by simp only [List.map_toArray, List.map_cons, List.map_nil]; rfl) ?_
  with_reducible refine (hnum).mono ?_
  rintro e w6 ⟨g, es, clk, rfl, hmap, hmo, hb6⟩
  refine ⟨_, rfl, ?_⟩
  have hlk : (Instr.lookup 64 (.map (some g)) (.string t0) true).run Try.prog w6 = .ok (.tuple #[.int .u64 n, .bool true]) w6 := (run_look mkey_string Try.underlying64 Try.underlying9 (.int .u64 0) w6 (Try.zeroValue29 w6) hmap hmo t0).trans (by rw [HNUM.out]; rfl)
  have K16 := Lib.hid (block_below K15.out hb6)
  have K26 := Lib.hid (block_below K25.out hb6)
  have HG6 := Lib.hid (below_step HG5.out hb6)
  clear hnum hmap hmo hb6
  refine hK.out _ _ ⟨(blk_cell K16.out 0).trans rfl, (blk_cell K26.out 0).trans rfl, (blk_cell K26.out 1).trans rfl, (blk_cell K26.out 2).trans rfl, (blk_cell K26.out 3).trans rfl, (blk_cell K26.out 4).trans rfl, (blk_cell K26.out 5).trans rfl, (blk_cell K26.out 6).trans rfl, (blk_cell K26.out 7).trans rfl, (blk_cell K26.out 8).trans rfl, (blk_cell K26.out 9).trans rfl, (blk_cell K26.out 10).trans rfl⟩ (fun hHeld => ?_)
  clear hK K
  refine norm_ (a' := ?_) ?_ ?_
  rotate_left
  · show Act.put _ (some 12) _ = _
    simp only [Act.put, List.setIfInBounds_toArray, List.set_cons_zero, List.set_cons_succ, i64_w, i32_w]
    rfl
  refine one_ (i := 4) (N := some 15) #[true, true, true, true, true, false, false, false, false, false] rfl rfl (by kernel_rfl) (by decide) (fun K hK => ?_)
  refine value_ (w1 := ?_) (v := ?_) (by rfl) rfl ?_ ?_
  rotate_left 2
  · go_simp
    constructor
    · rfl
    · rfl
  refine hK.out _ _ ⟨(blk_cell K16.out 0).trans rfl, (blk_cell K26.out 0).trans rfl, (blk_cell K26.out 1).trans rfl, (blk_cell K26.out 2).trans rfl, (blk_cell K26.out 3).trans rfl, (blk_cell K26.out 4).trans rfl, (blk_cell K26.out 5).trans rfl, (blk_cell K26.out 6).trans rfl, (blk_cell K26.out 7).trans rfl, (blk_cell K26.out 8).trans rfl, (blk_cell K26.out 9).trans rfl, (blk_cell K26.out 10).trans rfl⟩ (fun hHeld => ?_)
  clear hK K
  refine norm_ (a' := ?_) ?_ ?_
  rotate_left
  · show Act.put _ (some 15) _ = _
    simp only [Act.put, List.setIfInBounds_toArray, List.set_cons_zero, List.set_cons_succ, i64_w, i32_w]
    rfl
  refine pure_ (i := 5) (N := some 10) (v := ?_) (a' := ?_) #[true, true, true, true, true, true, false, false, false, false] rfl rfl (by kernel_rfl) (fun _ _ _ h => h) (Or.inl ⟨by rfl, ?_⟩) ?_ ?_
  rotate_left
  · intro w'
    go_simp
    with_reducible rfl
  rotate_left
  · simp only [Act.put, List.setIfInBounds_toArray, List.set_cons_zero, List.set_cons_succ, i64_w, i32_w]
    rfl
  refine pure_ (i := 6) (N := some 16) (v := ?_) (a' := ?_) #[true, true, true, true, true, true, true, false, false, false] rfl rfl (by kernel_rfl) (fun _ _ _ h => h) (Or.inl ⟨by rfl, ?_⟩) ?_ ?_
  rotate_left
  · intro w'
    go_simp
    with_reducible rfl
  rotate_left
  · simp only [Act.put, List.setIfInBounds_toArray, List.set_cons_zero, List.set_cons_succ, i64_w, i32_w]
    rfl
  refine pure_ (i := 7) (N := some 17) (v := ?_) (a' := ?_) #[true, true, true, true, true, true, true, true, false, false] rfl rfl (by kernel_rfl) (fun _ _ _ h => h) (Or.inl ⟨by rfl, ?_⟩) ?_ ?_
  rotate_left
  · intro w'
    go_simp
    with_reducible rfl
  rotate_left
  · simp only [Act.put, List.setIfInBounds_toArray, List.set_cons_zero, List.set_cons_succ, i64_w, i32_w]
    rfl
  refine pure_ (i := 8) (N := some 5) (v := ?_) (a' := ?_) #[true, true, true, true, true, true, true, true, true, false] rfl rfl (by kernel_rfl) (fun _ _ _ h => h) (Or.inl ⟨by rfl, ?_⟩) ?_ ?_
  rotate_left
  · intro w'
    go_simp
    with_reducible rfl
  rotate_left
  · simp only [Act.put, List.setIfInBounds_toArray, List.set_cons_zero, List.set_cons_succ, i64_w, i32_w]
    rfl
  refine pure_ (i := 9) (N := some 6) (v := ?_) (a' := ?_) #[true, true, true, true, true, true, true, true, true, true] rfl rfl (by kernel_rfl) (fun _ _ _ h => h) (Or.inl ⟨by rfl, ?_⟩) ?_ ?_
  rotate_left
  · intro w'
    go_simp
    with_reducible rfl
  rotate_left
  · simp only [Act.put, List.setIfInBounds_toArray, List.set_cons_zero, List.set_cons_succ, i64_w, i32_w]
    rfl
  refine done_ (by kernel_rfl) ?_
  clear hlk
  have y1 : w6.cell? ⟨w.heap.size, 1, none⟩ = some (.int .i64 t1) := (blk_cell K16.out 1).trans rfl
  by_cases hbig : 9223372036854775807 < n
  · have d : decide (9223372036854775807 < n) = true := decide_eq_true hbig
    have HRR := Lib.hid (show filter_holds.f t1 1 = some r by have := HR.out; rw [if_pos hbig] at this; exact this)
    clear hbig
    go_wp2_with fail
    refine (filter_holds.calls t1 1 r _ HRR.out).mono ?_
    rintro e w8 ⟨rfl, nd, rfl⟩
    go_wp2
    go_ret
    exact ⟨rfl, HG6.out.os, HG6.out.tape, HG6.out.output, HG6.out.size, HG6.out.block⟩
  · have d : decide (9223372036854775807 < n) = false := decide_eq_false hbig
    have HRR := Lib.hid (show filter_holds.f t1 (cmpI (wrap64 n) t4) = some r by have := HR.out; rw [if_neg hbig] at this; exact this)
    clear hbig
    go_wp2
    have k1 := blk_drew K16.out
    have hg := below_drew1 HG6.out
    refine start_ (n := 10) (S := fun w' => w'.cell? ⟨w.heap.size, 1, none⟩ = some (.int .i64 t1) ∧ w'.cell? ⟨w.heap.size, 4, none⟩ = some (.int .i64 t4)) (ds := []) #[false, false, false, false, false, false, false, false, false, false] (by kernel_rfl) rfl rfl ⟨(blk_cell k1 1).trans rfl, (blk_cell k1 4).trans rfl⟩ (fun hHeld => ?_)
    generalize w6.drew = w7 at k1 hg hHeld ⊢
    have K17 := Lib.hid k1
    have HG7 := Lib.hid hg
    clear k1 hg
    refine pure_ (i := 0) (N := some 24) (v := ?_) (a' := ?_) #[true, false, false, false, false, false, false, false, false, false] rfl rfl (by kernel_rfl) (fun _ _ _ h => h) (Or.inl ⟨by rfl, ?_⟩) ?_ ?_
    rotate_left
    · intro w'
      go_simp
      with_reducible rfl
    rotate_left
    · simp only [Act.put, List.setIfInBounds_toArray, List.set_cons_zero, List.set_cons_succ, i64_w, i32_w]
      rfl
    refine pure_ (i := 2) (N := some 26) (v := ?_) (a' := ?_) #[true, false, true, false, false, false, false, false, false, false] rfl rfl (by kernel_rfl) (fun _ _ _ h => h) (Or.inl ⟨by rfl, ?_⟩) ?_ ?_
    rotate_left
    · intro w'
      go_simp
      with_reducible rfl
    rotate_left
    · simp only [Act.put, List.setIfInBounds_toArray, List.set_cons_zero, List.set_cons_succ, i64_w, i32_w]
      rfl
    refine pure_ (i := 3) (N := some 27) (v := ?_) (a' := ?_) #[true, false, true, true, false, false, false, false, false, false] rfl rfl (by kernel_rfl) (fun _ _ _ h => h) (Or.inl ⟨by rfl, ?_⟩) ?_ ?_
    rotate_left
    · intro w'
      go_simp
      with_reducible rfl
    rotate_left
    · simp only [Act.put, List.setIfInBounds_toArray, List.set_cons_zero, List.set_cons_succ, i64_w, i32_w]
      rfl
    refine pure_ (i := 4) (N := some 28) (v := ?_) (a' := ?_) #[true, false, true, true, true, false, false, false, false, false] rfl rfl (by kernel_rfl) (fun _ _ _ h => h) (Or.inl ⟨by rfl, ?_⟩) ?_ ?_
    rotate_left
    · intro w'
      go_simp
      with_reducible rfl
    rotate_left
    · simp only [Act.put, List.setIfInBounds_toArray, List.set_cons_zero, List.set_cons_succ, i64_w, i32_w]
      rfl
    refine pure_ (i := 5) (N := some 29) (v := ?_) (a' := ?_) #[true, false, true, true, true, true, false, false, false, false] rfl rfl (by kernel_rfl) (fun _ _ _ h => h) (Or.inl ⟨by rfl, ?_⟩) ?_ ?_
    rotate_left
    · intro w'
      go_simp
      with_reducible rfl
    rotate_left
    · simp only [Act.put, List.setIfInBounds_toArray, List.set_cons_zero, List.set_cons_succ, i64_w, i32_w]
      rfl
    refine take_ (i := 1) (N := some 25) (v := ?_) (a' := ?_) #[true, true, true, true, true, true, false, false, false, false] rfl rfl (by kernel_rfl) (fun _ _ _ h => h) (Or.inl ⟨by rfl, ?_⟩) hHeld ?_ ?_
    rotate_left
    · rintro w' ⟨s0, s1⟩
      go_simp
      with_reducible rfl
    rotate_left
    · simp only [Act.put, List.setIfInBounds_toArray, List.set_cons_zero, List.set_cons_succ, i64_w, i32_w]
      rfl
    refine take_ (i := 6) (N := some 30) (v := ?_) (a' := ?_) #[true, true, true, true, true, true, true, false, false, false] rfl rfl (by kernel_rfl) (fun _ _ _ h => h) (Or.inl ⟨by rfl, ?_⟩) hHeld ?_ ?_
    rotate_left
    · rintro w' ⟨s0, s1⟩
      go_simp
      with_reducible rfl
    rotate_left
    · simp only [Act.put, List.setIfInBounds_toArray, List.set_cons_zero, List.set_cons_succ, i64_w, i32_w]
      rfl
    refine one_ (i := 7) (N := some 31) #[true, true, true, true, true, true, true, true, false, false] rfl rfl (by kernel_rfl) (by decide) (fun K hK => ?_)
    refine goes_ Try.func38 (by kernel_rfl) rfl #[.int .i64 (wrap64 n), .int .i64 t4] (by rfl) rfl rfl (by simp only [List.map_toArray, List.map_cons, List.map_nil]; rfl) ?_
    with_reducible refine (cmp_Compare_int64.calls _ _ _ w7 (cmp64 (wrap64 n) t4)).mono ?_
    rintro e w8 ⟨rfl, nd, rfl⟩
    refine ⟨_, rfl, ?_⟩
    refine hK.out _ _ ⟨(blk_cell K17.out 1).trans rfl, (blk_cell K17.out 4).trans rfl⟩ (fun hHeld => ?_)
    clear hK K
    refine norm_ (a' := ?_) ?_ ?_
    rotate_left
    · show Act.put _ (some 31) _ = _
      simp only [Act.put, List.setIfInBounds_toArray, List.set_cons_zero, List.set_cons_succ, i64_w, i32_w]
      rfl
    refine one_ (i := 8) (N := some 32) #[true, true, true, true, true, true, true, true, true, false] rfl rfl (by kernel_rfl) (by decide) (fun K hK => ?_)
    refine goes_ Try.func37 (by kernel_rfl) rfl #[.int .i64 t1, .int .i64 (cmpI (wrap64 n) t4)] (by rfl) rfl rfl (by simp only [List.map_toArray, List.map_cons, List.map_nil]; rfl) ?_
    with_reducible refine (filter_holds.calls t1 (cmpI (wrap64 n) t4) r _ HRR.out).mono ?_
    rintro e w9 ⟨rfl, nd2, rfl⟩
    refine ⟨_, rfl, ?_⟩
    refine hK.out _ _ ⟨(blk_cell K17.out 1).trans rfl, (blk_cell K17.out 4).trans rfl⟩ (fun hHeld => ?_)
    clear hK K
    refine norm_ (a' := ?_) ?_ ?_
    rotate_left
    · show Act.put _ (some 32) _ = _
      simp only [Act.put, List.setIfInBounds_toArray, List.set_cons_zero, List.set_cons_succ, i64_w, i32_w]
      rfl
    refine pure_ (i := 9) (N := some 4) (v := ?_) (a' := ?_) #[true, true, true, true, true, true, true, true, true, true] rfl rfl (by kernel_rfl) (fun _ _ _ h => h) (Or.inl ⟨by rfl, ?_⟩) ?_ ?_
    rotate_left
    · intro w'
      go_simp
      with_reducible rfl
    rotate_left
    · simp only [Act.put, List.setIfInBounds_toArray, List.set_cons_zero, List.set_cons_succ, i64_w, i32_w]
      rfl
    refine done_ (by kernel_rfl) ?_
    go_wp2
    go_ret
    exact ⟨rfl, HG7.out.os, HG7.out.tape, HG7.out.output, HG7.out.size, HG7.out.block⟩

/-- What Holds tells of a field's value. -/
def holdV (k : Nat) (t1 t2 : Int) (t3 : ByteArray) (t4 : Int) (t5 : Bool) (r1 : Int) (r2 : ByteArray) (r3 : Int) (r4 ok : Bool) : Option Bool := if ok = false then some false else if t1 = 6 then (if r1 = t2 then text_Match.f k t3 r2 else some false) else if (cmpV r1 r2 r3 r4 t2 t3 t4 t5).2 = true then filter_holds.f t1 (cmpV r1 r2 r3 r4 t2 t3 t4 t5).1 else some false
set_option maxHeartbeats 8000000 in
set_option maxRecDepth 1000000 in
theorem holds_val (k : Nat) (t0 : ByteArray) (t1 t2 : Int) (t3 : ByteArray) (t4 : Int) (t5 : Bool) (a0 a1 a2 : Int) (a3 a4 : ByteArray) (a5 a6 a7 : Int) (A8 : Option Addr) (c8 : Nat) (l8 : List S45) (A9 : Option Addr) (c9 : Nat) (l9 : List S77) (A10 : Option Addr) (c10 : Nat) (l10 : List S80) (r1 : Int) (r2 : ByteArray) (r3 : Int) (r4 ok : Bool) (r : Bool) (w : World) (hc8 : Kd.C k45 w A8 l8.length l8) (hl8 : l8.length ≤ c8) (hc9 : Kd.C k77 w A9 l9.length l9) (hl9 : l9.length ≤ c9) (hc10 : Kd.C k80 w A10 l10.length l10) (hl10 : l10.length ≤ c10) (hn : numI a0 a1 a2 a5 a6 a7 t0 = none) (hv : filter_value.f k t0 a0 a1 a2 a3 a4 a5 a6 a7 l8 l9 l10 = some (r1, r2, r3, r4, ok)) (hr : holdV k t1 t2 t3 t4 t5 r1 r2 r3 r4 ok = some r) : Calls Try.prog 15 #[.agg #[.string t0, .int .i64 t1, .int .i64 t2, .string t3, .int .i64 t4, .bool t5], .agg #[.int .u64 a0, .int .u64 a1, .int .u64 a2, .string a3, .string a4, .int .i64 a5, .int .i64 a6, .int .i64 a7, .slice A8 l8.length c8, .slice A9 l9.length c9, .slice A10 l10.length c10]] w fun e w' => e = .returned (.bool r) ∧ Below w.heap.size w w' := by
  have HNUM := Lib.hid (show numF (⟨a0, a1, a2, a3, a4, a5, a6, a7, (A8, l8.length, c8), (A9, l9.length, c9), (A10, l10.length, c10)⟩ : Sp) t0 = none by rw [numF_eq]; show (numI a0 a1 a2 a5 a6 a7 t0).map _ = _; rw [hn]; rfl)
  have HR := Lib.hid hr
  have HV := Lib.hid hv
  have HC8 := Lib.hid hc8
  have HL8 := Lib.hid hl8
  have HC9 := Lib.hid hc9
  have HL9 := Lib.hid hl9
  have HC10 := Lib.hid hc10
  have HL10 := Lib.hid hl10
  clear hn hr hv hc8 hl8 hc9 hl9 hc10 hl10
  have hgr := below_alloc (below_alloc (Below.refl w.heap.size w) (.cells #[.string t0, .int .i64 t1, .int .i64 t2, .string t3, .int .i64 t4, .bool t5] 41)) (.cells #[.int .u64 a0, .int .u64 a1, .int .u64 a2, .string a3, .string a4, .int .i64 a5, .int .i64 a6, .int .i64 a7, .slice A8 l8.length c8, .slice A9 l9.length c9, .slice A10 l10.length c10] 34)
  have k1 : ((w.alloc (.cells #[.string t0, .int .i64 t1, .int .i64 t2, .string t3, .int .i64 t4, .bool t5] 41)).alloc (.cells #[.int .u64 a0, .int .u64 a1, .int .u64 a2, .string a3, .string a4, .int .i64 a5, .int .i64 a6, .int .i64 a7, .slice A8 l8.length c8, .slice A9 l9.length c9, .slice A10 l10.length c10] 34)).heap[w.heap.size]? = some (.cells #[.string t0, .int .i64 t1, .int .i64 t2, .string t3, .int .i64 t4, .bool t5] 41 (0, 0)) := block_below (heap_alloc_new w _) (below_alloc (Below.refl _ _) _)
  have k2 : ((w.alloc (.cells #[.string t0, .int .i64 t1, .int .i64 t2, .string t3, .int .i64 t4, .bool t5] 41)).alloc (.cells #[.int .u64 a0, .int .u64 a1, .int .u64 a2, .string a3, .string a4, .int .i64 a5, .int .i64 a6, .int .i64 a7, .slice A8 l8.length c8, .slice A9 l9.length c9, .slice A10 l10.length c10] 34)).heap[(w.alloc (.cells #[.string t0, .int .i64 t1, .int .i64 t2, .string t3, .int .i64 t4, .bool t5] 41)).heap.size]? = some (.cells #[.int .u64 a0, .int .u64 a1, .int .u64 a2, .string a3, .string a4, .int .i64 a5, .int .i64 a6, .int .i64 a7, .slice A8 l8.length c8, .slice A9 l9.length c9, .slice A10 l10.length c10] 34 (0, 0)) := heap_alloc_new _ _
  rw [show (w.alloc (.cells #[.string t0, .int .i64 t1, .int .i64 t2, .string t3, .int .i64 t4, .bool t5] 41)).heap.size = w.heap.size + 1 by simp] at k2
  have HG := Lib.hid hgr
  have K1 := Lib.hid k1
  have K2 := Lib.hid k2
  clear hgr k1 k2
  go_enter Try.func15, Try.ntmps15
  go_wp2
  have k1 := blk_drew K1.out
  have k2 := blk_drew K2.out
  have hg := below_drew1 HG.out
  refine start_ (n := 10) (S := fun w' => w'.cell? ⟨w.heap.size, 0, none⟩ = some (.string t0) ∧ w'.cell? ⟨w.heap.size + 1, 0, none⟩ = some (.int .u64 a0) ∧ w'.cell? ⟨w.heap.size + 1, 1, none⟩ = some (.int .u64 a1) ∧ w'.cell? ⟨w.heap.size + 1, 2, none⟩ = some (.int .u64 a2) ∧ w'.cell? ⟨w.heap.size + 1, 3, none⟩ = some (.string a3) ∧ w'.cell? ⟨w.heap.size + 1, 4, none⟩ = some (.string a4) ∧ w'.cell? ⟨w.heap.size + 1, 5, none⟩ = some (.int .i64 a5) ∧ w'.cell? ⟨w.heap.size + 1, 6, none⟩ = some (.int .i64 a6) ∧ w'.cell? ⟨w.heap.size + 1, 7, none⟩ = some (.int .i64 a7) ∧ w'.cell? ⟨w.heap.size + 1, 8, none⟩ = some (.slice A8 l8.length c8) ∧ w'.cell? ⟨w.heap.size + 1, 9, none⟩ = some (.slice A9 l9.length c9) ∧ w'.cell? ⟨w.heap.size + 1, 10, none⟩ = some (.slice A10 l10.length c10)) (ds := []) #[false, false, false, false, false, false, false, false, false, false] (by kernel_rfl) rfl rfl ⟨(blk_cell k1 0).trans rfl, (blk_cell k2 0).trans rfl, (blk_cell k2 1).trans rfl, (blk_cell k2 2).trans rfl, (blk_cell k2 3).trans rfl, (blk_cell k2 4).trans rfl, (blk_cell k2 5).trans rfl, (blk_cell k2 6).trans rfl, (blk_cell k2 7).trans rfl, (blk_cell k2 8).trans rfl, (blk_cell k2 9).trans rfl, (blk_cell k2 10).trans rfl⟩ (fun hHeld => ?_)
  generalize ((w.alloc (.cells #[.string t0, .int .i64 t1, .int .i64 t2, .string t3, .int .i64 t4, .bool t5] 41)).alloc (.cells #[.int .u64 a0, .int .u64 a1, .int .u64 a2, .string a3, .string a4, .int .i64 a5, .int .i64 a6, .int .i64 a7, .slice A8 l8.length c8, .slice A9 l9.length c9, .slice A10 l10.length c10] 34)).drew = w5 at k1 k2 hg hHeld ⊢
  have K15 := Lib.hid k1
  have K25 := Lib.hid k2
  have HG5 := Lib.hid hg
  clear k1 k2 hg
  refine pure_ (i := 2) (N := some 13) (v := ?_) (a' := ?_) #[false, false, true, false, false, false, false, false, false, false] rfl rfl (by kernel_rfl) (fun _ _ _ h => h) (Or.inl ⟨by rfl, ?_⟩) ?_ ?_
  rotate_left
  · intro w'
    go_simp
    with_reducible rfl
  rotate_left
  · simp only [Act.put, List.setIfInBounds_toArray, List.set_cons_zero, List.set_cons_succ, i64_w, i32_w]
    rfl
  refine take_ (i := 0) (N := some 11) (v := ?_) (a' := ?_) #[true, false, true, false, false, false, false, false, false, false] rfl rfl (by kernel_rfl) (fun _ _ _ h => h) (Or.inl ⟨by rfl, ?_⟩) hHeld ?_ ?_
  rotate_left
  · rintro w' ⟨s0, s1, s2, s3, s4, s5, s6, s7, s8, s9, s10, s11⟩
    go_simp
    with_reducible rfl
  rotate_left
  · simp only [Act.put, List.setIfInBounds_toArray, List.set_cons_zero, List.set_cons_succ, i64_w, i32_w]
    rfl
  refine take_ (i := 3) (N := some 14) (v := ?_) (a' := ?_) #[true, false, true, true, false, false, false, false, false, false] rfl rfl (by kernel_rfl) (fun _ _ _ h => h) (Or.inl ⟨by rfl, ?_⟩) hHeld ?_ ?_
  rotate_left
  · rintro w' ⟨s0, s1, s2, s3, s4, s5, s6, s7, s8, s9, s10, s11⟩
    go_simp
    with_reducible rfl
  rotate_left
  · simp only [Act.put, List.setIfInBounds_toArray, List.set_cons_zero, List.set_cons_succ, i64_w, i32_w]
    rfl
  refine one_ (i := 1) (N := some 12) #[true, true, true, true, false, false, false, false, false, false] rfl rfl (by kernel_rfl) (by decide) (fun K hK => ?_)
  have hnum := numbers_calls (⟨a0, a1, a2, a3, a4, a5, a6, a7, (A8, l8.length, c8), (A9, l9.length, c9), (A10, l10.length, c10)⟩ : Sp) w5
  rw [arr_S] at hnum
  dsimp only at hnum
  refine goes_ Try.func36 (by kernel_rfl) rfl #[.agg #[.int .u64 a0, .int .u64 a1, .int .u64 a2, .string a3, .string a4, .int .i64 a5, .int .i64 a6, .int .i64 a7, .slice A8 l8.length c8, .slice A9 l9.length c9, .slice A10 l10.length c10]] (by rfl) rfl rfl (by simp only [List.map_toArray, List.map_cons, List.map_nil]; rfl) ?_
  with_reducible refine (hnum).mono ?_
  rintro e w6 ⟨g, es, clk, rfl, hmap, hmo, hb6⟩
  refine ⟨_, rfl, ?_⟩
  have hlk : (Instr.lookup 64 (.map (some g)) (.string t0) true).run Try.prog w6 = .ok (.tuple #[.int .u64 0, .bool false]) w6 := (run_look mkey_string Try.underlying64 Try.underlying9 (.int .u64 0) w6 (Try.zeroValue29 w6) hmap hmo t0).trans (by rw [HNUM.out]; rfl)
  have K16 := Lib.hid (block_below K15.out hb6)
  have K26 := Lib.hid (block_below K25.out hb6)
  have HG6 := Lib.hid (below_step HG5.out hb6)
  clear hnum hmap hmo hb6
  refine hK.out _ _ ⟨(blk_cell K16.out 0).trans rfl, (blk_cell K26.out 0).trans rfl, (blk_cell K26.out 1).trans rfl, (blk_cell K26.out 2).trans rfl, (blk_cell K26.out 3).trans rfl, (blk_cell K26.out 4).trans rfl, (blk_cell K26.out 5).trans rfl, (blk_cell K26.out 6).trans rfl, (blk_cell K26.out 7).trans rfl, (blk_cell K26.out 8).trans rfl, (blk_cell K26.out 9).trans rfl, (blk_cell K26.out 10).trans rfl⟩ (fun hHeld => ?_)
  clear hK K
  refine norm_ (a' := ?_) ?_ ?_
  rotate_left
  · show Act.put _ (some 12) _ = _
    simp only [Act.put, List.setIfInBounds_toArray, List.set_cons_zero, List.set_cons_succ, i64_w, i32_w]
    rfl
  refine one_ (i := 4) (N := some 15) #[true, true, true, true, true, false, false, false, false, false] rfl rfl (by kernel_rfl) (by decide) (fun K hK => ?_)
  refine value_ (w1 := ?_) (v := ?_) (by rfl) rfl ?_ ?_
  rotate_left 2
  · go_simp
    constructor
    · rfl
    · rfl
  refine hK.out _ _ ⟨(blk_cell K16.out 0).trans rfl, (blk_cell K26.out 0).trans rfl, (blk_cell K26.out 1).trans rfl, (blk_cell K26.out 2).trans rfl, (blk_cell K26.out 3).trans rfl, (blk_cell K26.out 4).trans rfl, (blk_cell K26.out 5).trans rfl, (blk_cell K26.out 6).trans rfl, (blk_cell K26.out 7).trans rfl, (blk_cell K26.out 8).trans rfl, (blk_cell K26.out 9).trans rfl, (blk_cell K26.out 10).trans rfl⟩ (fun hHeld => ?_)
  clear hK K
  refine norm_ (a' := ?_) ?_ ?_
  rotate_left
  · show Act.put _ (some 15) _ = _
    simp only [Act.put, List.setIfInBounds_toArray, List.set_cons_zero, List.set_cons_succ, i64_w, i32_w]
    rfl
  refine pure_ (i := 5) (N := some 10) (v := ?_) (a' := ?_) #[true, true, true, true, true, true, false, false, false, false] rfl rfl (by kernel_rfl) (fun _ _ _ h => h) (Or.inl ⟨by rfl, ?_⟩) ?_ ?_
  rotate_left
  · intro w'
    go_simp
    with_reducible rfl
  rotate_left
  · simp only [Act.put, List.setIfInBounds_toArray, List.set_cons_zero, List.set_cons_succ, i64_w, i32_w]
    rfl
  refine pure_ (i := 6) (N := some 16) (v := ?_) (a' := ?_) #[true, true, true, true, true, true, true, false, false, false] rfl rfl (by kernel_rfl) (fun _ _ _ h => h) (Or.inl ⟨by rfl, ?_⟩) ?_ ?_
  rotate_left
  · intro w'
    go_simp
    with_reducible rfl
  rotate_left
  · simp only [Act.put, List.setIfInBounds_toArray, List.set_cons_zero, List.set_cons_succ, i64_w, i32_w]
    rfl
  refine pure_ (i := 7) (N := some 17) (v := ?_) (a' := ?_) #[true, true, true, true, true, true, true, true, false, false] rfl rfl (by kernel_rfl) (fun _ _ _ h => h) (Or.inl ⟨by rfl, ?_⟩) ?_ ?_
  rotate_left
  · intro w'
    go_simp
    with_reducible rfl
  rotate_left
  · simp only [Act.put, List.setIfInBounds_toArray, List.set_cons_zero, List.set_cons_succ, i64_w, i32_w]
    rfl
  refine pure_ (i := 8) (N := some 5) (v := ?_) (a' := ?_) #[true, true, true, true, true, true, true, true, true, false] rfl rfl (by kernel_rfl) (fun _ _ _ h => h) (Or.inl ⟨by rfl, ?_⟩) ?_ ?_
  rotate_left
  · intro w'
    go_simp
    with_reducible rfl
  rotate_left
  · simp only [Act.put, List.setIfInBounds_toArray, List.set_cons_zero, List.set_cons_succ, i64_w, i32_w]
    rfl
  refine pure_ (i := 9) (N := some 6) (v := ?_) (a' := ?_) #[true, true, true, true, true, true, true, true, true, true] rfl rfl (by kernel_rfl) (fun _ _ _ h => h) (Or.inl ⟨by rfl, ?_⟩) ?_ ?_
  rotate_left
  · intro w'
    go_simp
    with_reducible rfl
  rotate_left
  · simp only [Act.put, List.setIfInBounds_toArray, List.set_cons_zero, List.set_cons_succ, i64_w, i32_w]
    rfl
  refine done_ (by kernel_rfl) ?_
  clear hlk
  have y0 : w6.cell? ⟨w.heap.size, 0, none⟩ = some (.string t0) := (blk_cell K16.out 0).trans rfl
  have x0 := (blk_cell K26.out 0).trans rfl
  have x1 := (blk_cell K26.out 1).trans rfl
  have x2 := (blk_cell K26.out 2).trans rfl
  have x3 := (blk_cell K26.out 3).trans rfl
  have x4 := (blk_cell K26.out 4).trans rfl
  have x5 := (blk_cell K26.out 5).trans rfl
  have x6 := (blk_cell K26.out 6).trans rfl
  have x7 := (blk_cell K26.out 7).trans rfl
  have x8 := (blk_cell K26.out 8).trans rfl
  have x9 := (blk_cell K26.out 9).trans rfl
  have x10 := (blk_cell K26.out 10).trans rfl
  go_wp2_with fail
  refine (filter_value.calls k t0 a0 a1 a2 a3 a4 a5 a6 a7 A8 c8 l8 A9 c9 l9 A10 c10 l10 r1 r2 r3 r4 ok w6 (Kd.C_below HC8.out HG6.out) HL8.out (Kd.C_below HC9.out HG6.out) HL9.out (Kd.C_below HC10.out HG6.out) HL10.out HV.out).mono ?_
  rintro e w8 ⟨rfl, hb8⟩
  have K18 := Lib.hid (block_below K16.out hb8)
  have HG8 := Lib.hid (below_step HG6.out hb8)
  clear hb8 x0 x1 x2 x3 x4 x5 x6 x7 x8 x9 x10 y0
  have y0 : w8.cell? ⟨w.heap.size, 0, none⟩ = some (.string t0) := (blk_cell K18.out 0).trans rfl
  have hb9 := below_alloc (Below.refl w8.heap.size w8) (.cells #[.int .i64 r1, .string r2, .int .i64 r3, .bool r4] 39)
  have K19 := Lib.hid (block_below K18.out hb9)
  have KV := Lib.hid (heap_alloc_new w8 (.cells #[.int .i64 r1, .string r2, .int .i64 r3, .bool r4] 39))
  have HG9 := Lib.hid (below_step HG8.out hb9)
  have HS8 := Lib.hid HG8.out.size
  clear hb9
  have y1 : (w8.alloc (.cells #[.int .i64 r1, .string r2, .int .i64 r3, .bool r4] 39)).cell? ⟨w.heap.size, 1, none⟩ = some (.int .i64 t1) := (blk_cell K19.out 1).trans rfl
  have y2 : (w8.alloc (.cells #[.int .i64 r1, .string r2, .int .i64 r3, .bool r4] 39)).cell? ⟨w.heap.size, 2, none⟩ = some (.int .i64 t2) := (blk_cell K19.out 2).trans rfl
  have y3 : (w8.alloc (.cells #[.int .i64 r1, .string r2, .int .i64 r3, .bool r4] 39)).cell? ⟨w.heap.size, 3, none⟩ = some (.string t3) := (blk_cell K19.out 3).trans rfl
  have y4 : (w8.alloc (.cells #[.int .i64 r1, .string r2, .int .i64 r3, .bool r4] 39)).cell? ⟨w.heap.size, 4, none⟩ = some (.int .i64 t4) := (blk_cell K19.out 4).trans rfl
  have y5 : (w8.alloc (.cells #[.int .i64 r1, .string r2, .int .i64 r3, .bool r4] 39)).cell? ⟨w.heap.size, 5, none⟩ = some (.bool t5) := (blk_cell K19.out 5).trans rfl
  have z0 : (w8.alloc (.cells #[.int .i64 r1, .string r2, .int .i64 r3, .bool r4] 39)).cell? ⟨w8.heap.size, 0, none⟩ = some (.int .i64 r1) := (blk_cell KV.out 0).trans rfl
  have z1 : (w8.alloc (.cells #[.int .i64 r1, .string r2, .int .i64 r3, .bool r4] 39)).cell? ⟨w8.heap.size, 1, none⟩ = some (.string r2) := (blk_cell KV.out 1).trans rfl
  have z2 : (w8.alloc (.cells #[.int .i64 r1, .string r2, .int .i64 r3, .bool r4] 39)).cell? ⟨w8.heap.size, 2, none⟩ = some (.int .i64 r3) := (blk_cell KV.out 2).trans rfl
  have z3 : (w8.alloc (.cells #[.int .i64 r1, .string r2, .int .i64 r3, .bool r4] 39)).cell? ⟨w8.heap.size, 3, none⟩ = some (.bool r4) := (blk_cell KV.out 3).trans rfl
  cases ok with
  | false =>
    obtain rfl := Option.some.inj (show some false = some r from HR.out)
    go_wp2
    go_ret
    exact ⟨rfl, HG9.out⟩
  | true =>
    by_cases h6 : t1 = 6
    · have d6 : (t1 == 6) = true := beq_iff_eq.2 h6
      by_cases hk : r1 = t2
      · have dk : (r1 == t2) = true := beq_iff_eq.2 hk
        have HRR := Lib.hid (show text_Match.f k t3 r2 = some r by have := HR.out; unfold holdV at this; rw [if_neg (by decide), if_pos h6, if_pos hk] at this; exact this)
        clear h6 hk
        go_wp2_with fail
        refine (text_Match.calls k t3 r2 r _ HRR.out).mono ?_
        rintro e w10 ⟨rfl, hb10⟩
        go_wp2
        go_ret
        exact ⟨rfl, below_step HG9.out hb10⟩
      · have dk : (r1 == t2) = false := beq_eq_false_iff_ne.2 hk
        obtain rfl := Option.some.inj (show some false = some r by have := HR.out; unfold holdV at this; rw [if_neg (by decide), if_pos h6, if_neg hk] at this; exact this)
        clear h6 hk
        go_wp2
        go_ret
        exact ⟨rfl, HG9.out⟩
    · have d6 : (t1 == 6) = false := beq_eq_false_iff_ne.2 h6
      obtain ⟨n, o, hno⟩ : ∃ n o, cmpV r1 r2 r3 r4 t2 t3 t4 t5 = (n, o) := ⟨_, _, rfl⟩
      have HNO := Lib.hid (show span_Compare.f r1 r2 r3 r4 t2 t3 t4 t5 = some (n, o) by unfold span_Compare.f; rw [hno])
      have HRR := Lib.hid (show (if o = true then filter_holds.f t1 n else some false) = some r by have := HR.out; unfold holdV at this; rw [if_neg (by decide), if_neg h6, hno] at this; exact this)
      clear h6 hno
      go_wp2_with fail
      refine (span_Compare.calls r1 r2 r3 r4 t2 t3 t4 t5 n o _ HNO.out).mono ?_
      rintro e w10 ⟨rfl, hb10⟩
      have y1' : w10.cell? ⟨w.heap.size, 1, none⟩ = some (.int .i64 t1) := (blk_cell (block_below K19.out hb10) 1).trans rfl
      have HG10 := Lib.hid (below_step HG9.out hb10)
      clear hb10 y1 y2 y3 y4 y5 z0 z1 z2 z3
      cases o with
      | false =>
        obtain rfl := Option.some.inj (show some false = some r from HRR.out)
        go_wp2
        go_ret
        exact ⟨rfl, HG10.out⟩
      | true =>
        have HRR2 := Lib.hid (show filter_holds.f t1 n = some r from HRR.out)
        go_wp2_with fail
        refine (filter_holds.calls t1 n r _ HRR2.out).mono ?_
        rintro e w11 ⟨rfl, nd, rfl⟩
        go_wp2
        go_ret
        exact ⟨rfl, HG10.out.os, HG10.out.tape, HG10.out.output, HG10.out.size, HG10.out.block⟩
end Go.Proofs.Ytffggkhahambhaa.Tr

namespace Go.Proofs.Ytffggkhahambhaa.Tr
open Go.RowKit Go.Proofs.YtffggkhahambhaaW.PrintWords Go.Proofs.YtffggkhahambhaaW.PrintLast Go.Proofs.YtffggkhahambhaaW.PrintMore Go.Proofs.Ytffggkhahambhaa.Math Go.Proofs.Ytffggkhahambhaa.PAll
set_option linter.unusedVariables false
set_option linter.unusedSimpArgs false
/-- filter.All's closure tells of these spans the opposite of p, as long as nothing below B turns. -/
def Keeps (B : Nat) (w0 : World) (bq : Nat) (p : Sp → Bool) (l : List Sp) : Prop := ∀ s ∈ l, ∀ w, Below B w0 w → Calls Try.prog 25 #[.agg (encS s).toArray, .pointer (some ⟨bq, 0, none⟩)] w fun e w' => e = .returned (.bool (!p s)) ∧ Below w.heap.size w w'
theorem bel_then {B : Nat} {w0 w w1 : World} (h : Below B w0 w) (hB : B ≤ w.heap.size) (h1 : Below w.heap.size w w1) : Below B w0 w1 := h.trans ⟨h1.os, h1.tape, h1.output, h1.size, fun k hk => h1.block k (by omega)⟩
set_option maxHeartbeats 2000000 in
theorem clone_calls (A : Option Addr) (c : Nat) (l : List Sp) (w : World) (hr : Kd.C kS w A l.length l) (hl : l.length ≤ c) (hn : l.length ≤ 1000000) :
    Calls Try.prog 24 #[.slice A l.length c] w fun e w' => ∃ v, e = .returned v ∧ Kd.R kS 34 w' w.heap.size (fun _ => True) v l ∧ Below w.heap.size w w' := by
  have q : ∀ (w : World) (a : Option Addr) (n c n' c' : Nat), (binOp .eql 25 (.slice a n c) (.slice none n' c')).run Try.prog w = .ok (.bool a.isNone) w := fun w a n c n' c' => Lib.run_eql_slice_nil w _ _ a n c n' c' Try.underlying25
  rcases A with _ | ad
  · have h0 : l = [] := by
      rcases Nat.eq_zero_or_pos l.length with h0 | h0
      · exact List.length_eq_zero_iff.1 h0
      · obtain ⟨ad, h, _⟩ := hr.2.2 h0
        cases h
    subst h0
    go_enter Try.func24, Try.ntmps24
    go_wp2
    go_ret
    exact ⟨_, rfl, Kd.R_nil _ _ _ _ _, Below.refl _ _⟩
  · have HR := Lib.hid hr
    have HL := Lib.hid hn
    clear hr hn
    go_enter Try.func24, Try.ntmps24
    go_wp2_with (first | ((with_reducible refine gate_dst (N := 5) rfl ?_); refine Kd.R_lit kS _ 34 ?hg (N := 5) ?hd (xs := ([] : List Sp)) (inner := []) (ok := fun _ => True) (okp := fun _ => True) ?hr ?hp (fun _ hk => hk) trivial (Below.refl _ _) (Nat.le_refl _) (by simp) ?_; (case hd => rfl); (case hg => rfl); (case hr => first | (go_simp; done) | (go_simp; rfl)); (case hp => exact (Reps.none _ _)); intro v1 w1 ho hb hg_ hnew_; clear hg_ hnew_; have HO := Lib.hid ho; have HB := Lib.hid hb; clear ho hb) | ((with_reducible refine gate_builtin (b := .append) (xs := #[.tmp 5, .tmp 6]) rfl ?_); at_builtin; refine Kd.R_append_rows kS (w0 := w) w.heap.size rfl (.tmp 5) (.tmp 6) 25 34 (.agg #[(.int .u64 0), (.int .u64 0), (.int .u64 0), (.string ⟨#[]⟩), (.string ⟨#[]⟩), (.int .i64 0), (.int .i64 0), (.int .i64 0), (.slice none 0 0), (.slice none 0 0), (.slice none 0 0)]) 152 rfl Try.underlying25 infoS rfl (by decide) (by omega) v1 [] l _ _ _ (fun _ => True) (fun _ => False) rfl rfl ?aO ?aR (fun _ _ h => h) (fun _ h => h.elim) ?aF ?aB ?aS ?aL ?_; (case aR => exact Kd.C_below HR.out HB.out); (case aB => exact HB.out); (case aF => exact (fun _ _ => trivial)); (case aO => exact HO.out); (case aS => exact below_size HB.out); (case aL => have := HL.out; simp; omega); intro v2 w2 ho hb hg hat; have HO2 := Lib.hid ho; have HB2 := Lib.hid hb; clear ho hb hg hat))
    go_ret
    exact ⟨_, rfl, by simpa using HO2.out, HB2.out⟩

set_option maxHeartbeats 4000000 in
set_option maxRecDepth 100000 in
theorem indexf_calls (A : Option Addr) (c : Nat) (l : List Sp) {B bq : Nat} {p : Sp → Bool} {w0 w : World} (hP : Keeps B w0 bq p l) (hB0 : Below B w0 w) (hBs : B ≤ w.heap.size) (hr : Kd.C kS w A l.length l) (hl : l.length ≤ c) (hn : l.length ≤ 1000000) :
    Calls Try.prog 47 #[.slice A l.length c, .func (.func 25) #[] #[.pointer (some ⟨bq, 0, none⟩)]] w fun e w' => ∃ i : Int, e = .returned (.int .i64 i) ∧ ((i = -1 ∧ ∀ s ∈ l, p s = true) ∨ ∃ k : Nat, i = k ∧ k < l.length ∧ (∀ s ∈ l.take k, p s = true) ∧ ∀ s, l[k]? = some s → p s = false) ∧ Below w.heap.size w w' := by
  have HP := Lib.hid hP
  have HB0 := Lib.hid hB0
  have HBs := Lib.hid hBs
  have HR := Lib.hid hr
  have HN := Lib.hid hn
  clear hP hB0 hBs hr hn
  go_enter Try.func47, Try.ntmps47
  go_wp2
  go_loopw [5, 8] (fun _ i wr => ∃ k : Nat, k ≤ l.length ∧ i = .int .i64 k ∧ Hid (∀ s ∈ l.take k, p s = true) ∧ Hid (Below w.heap.size w wr)) (fun _ i _ => l.length - (intOf i).toNat)
  case atStart => exact ⟨0, by omega, rfl, Lib.hid (fun s hs => by simp at hs), Lib.hid (Below.refl _ _)⟩
  case round =>
    obtain ⟨k, hk, rfl, HA, HB⟩ := hrel
    by_cases hlt : k < l.length
    · obtain ⟨s, hs⟩ : ∃ s, l[k]? = some s := ⟨_, List.getElem?_eq_getElem hlt⟩
      obtain ⟨ad, rfl, x0, x1, x2, x3, x4, x5, x6, x7, x8, x9, x10⟩ := at_S (Kd.C_below HR.out HB.out) hs
      have HTk := Lib.hid (show l.take (k + 1) = l.take k ++ [s] by
        obtain ⟨hk2, e⟩ := List.getElem?_eq_some_iff.1 hs
        rw [List.take_succ_eq_append_getElem hk2, e])
      have q : (k : Int) < (l.length : Int) := by omega
      have HK := Lib.hid (show k + 1 ≤ l.length by omega)
      have HW := Lib.hid (show wrap64 ((k : Int) + 1) = ((k + 1 : Nat) : Int) by have := HN.out; unfold wrap64; omega)
      have HGS := Lib.hid hs
      have hcall := HP.out s (List.mem_of_getElem? hs) wr (bel_then HB0.out HBs.out HB.out)
      rw [arr_S] at hcall
      have HCALL := Lib.hid hcall
      clear hs hlt hk hcall
      go_wp2_with fail
      refine HCALL.out.mono ?_
      rintro e w1 ⟨rfl, hb⟩
      have HB1 := Lib.hid (below_step HB.out hb)
      clear hb x0 x1 x2 x3 x4 x5 x6 x7 x8 x9 x10
      cases hroot : p s with
      | true =>
        have HRT := Lib.hid hroot
        clear hroot
        go_wp2
        go_roundw
        case rel => exact ⟨k + 1, HK.out, by rw [HW.out], Lib.hid (by rw [HTk.out]; intro y hy; rcases List.mem_append.1 hy with hy | hy; exact HA.out y hy; rw [List.mem_singleton.1 hy]; exact HRT.out), HB1⟩
        case measure => exact meas_up HN.out HK.out
      | false =>
        have HRT := Lib.hid hroot
        clear hroot
        go_wp2
        go_ret
        exact ⟨k, rfl, .inr ⟨k, rfl, by have := HK.out; omega, HA.out, fun y hy => by rw [HGS.out] at hy; injection hy with hy; rw [← hy]; exact HRT.out⟩, HB1.out⟩
    · have hkl : k = l.length := by omega
      subst hkl
      have q : decide ((l.length : Int) < (l.length : Int)) = false := decide_eq_false (by omega)
      rw [List.take_length] at HA
      clear hlt hk
      go_wp2
      go_ret
      exact ⟨-1, rfl, .inl ⟨rfl, HA.out⟩, HB.out⟩

theorem take_set_snoc {ys : List Sp} {i : Nat} (hi : i < ys.length) (s : Sp) : (ys.set i s).take (i + 1) = ys.take i ++ [s] := by
  rw [List.take_succ_eq_append_getElem (by rw [List.length_set]; exact hi), List.getElem_set_self, List.take_set_of_le (Nat.le_refl _)]

set_option maxHeartbeats 4000000 in
set_option maxRecDepth 100000 in
theorem delf_calls (A : Option Addr) (c : Nat) (l : List Sp) {base bq : Nat} {p : Sp → Bool} {w0 w : World} (hP : Keeps base w0 bq p l) (hB0 : Below base w0 w) (hbs : base ≤ w.heap.size) (hr : Kd.R kS 34 w base (fun _ => True) (.slice A l.length c) l) (hn : l.length ≤ 1000000) :
    Calls Try.prog 23 #[.slice A l.length c, .func (.func 25) #[] #[.pointer (some ⟨bq, 0, none⟩)]] w fun e w' => ∃ v', e = .returned v' ∧ Kd.R kS 34 w' base (fun _ => True) v' (l.filter fun s => p s) ∧ Below base w w' := by
  have hix := indexf_calls A c l hP hB0 hbs (Kd.R_reads' hr).2.2 (Kd.R_reads' hr).2.1 hn
  have HIX := Lib.hid hix
  have HP := Lib.hid hP
  have HB0 := Lib.hid hB0
  have HR := Lib.hid hr
  have HN := Lib.hid hn
  have HBS := Lib.hid hbs
  clear hix hP hB0 hr hn hbs
  go_enter Try.func23, Try.ntmps23
  go_wp2_with fail
  refine HIX.out.mono ?_
  rintro e w1 ⟨ix, rfl, hix, hb⟩
  have HB1 := Lib.hid (show Below base w w1 from ⟨hb.os, hb.tape, hb.output, hb.size, fun k hk => hb.block k (by have := HBS.out; omega)⟩)
  have HR1 := Lib.hid (Kd.R_below HR.out hb)
  clear hb HIX
  rcases hix with ⟨rfl, hall⟩ | ⟨k0, rfl, hk0, hall, hno⟩
  · have HALL := Lib.hid hall
    clear hall
    go_wp2
    go_ret
    exact ⟨_, rfl, by rw [List.filter_eq_self.2 HALL.out]; exact HR1.out, HB1.out⟩
  · obtain ⟨ad, rfl⟩ : ∃ ad, A = some ad := by
      obtain ⟨ad, c', h⟩ := Kd.R_slice1 HR1.out (by omega)
      injection h with h
      exact ⟨ad, h⟩
    have q0 : ((k0 : Int) == -1) = false := beq_eq_false_iff_ne.2 (by omega)
    have HW0 := Lib.hid (show wrap64 ((k0 : Int) + 1) = ((k0 + 1 : Nat) : Int) by have := HN.out; unfold wrap64; omega)
    have HK0 := Lib.hid hk0
    have HT0 := Lib.hid (show l.take k0 = (l.take (k0 + 1)).filter fun s => p s by
      rw [List.take_succ_eq_append_getElem hk0, List.filter_append, List.filter_eq_self.2 hall, List.filter_cons_of_neg (by rw [hno _ (List.getElem?_eq_getElem hk0)]; decide)]
      simp)
    obtain ⟨k1, hk1⟩ : ∃ k1, k1 = k0 + 1 := ⟨_, rfl⟩
    rw [← hk1] at HW0 HT0
    have HK1 := Lib.hid hk1
    clear hall hno hk0 hk1
    go_wp2
    rw [HW0.out]
    go_loopw [5, 6, 7] (fun a5 a6 _ wr => ∃ (i j : Nat) (ys : List Sp), j ≤ l.length ∧ a5 = .int .i64 i ∧ a6 = .int .i64 j ∧ Hid (i < j) ∧ Hid (ys.length = l.length) ∧ Hid (ys.take i = (l.take j).filter fun s => p s) ∧ Hid (ys.drop j = l.drop j) ∧ Hid (Kd.R kS 34 wr base (fun _ => True) (.slice (some ad) l.length c) ys) ∧ Hid (Below base w wr)) (fun _ a6 _ _ => l.length - (intOf a6).toNat)
    case atStart => exact ⟨k0, k1, l, by have := HK0.out; have := HK1.out; omega, rfl, rfl, Lib.hid (by have := HK1.out; omega), Lib.hid rfl, HT0, Lib.hid rfl, HR1, HB1⟩
    case round =>
      clear HR1 HB1 HR HT0
      obtain ⟨i, j, ys, hj, rfl, rfl, HIJ, HYL, HYT, HYD, HR, HB⟩ := hrel
      have HBZ := Lib.hid (Nat.le_trans HBS.out HB.out.size)
      by_cases hlt : j < l.length
      · obtain ⟨s, hs⟩ : ∃ s, ys[j]? = some s := ⟨_, List.getElem?_eq_getElem (by rw [HYL.out]; exact hlt)⟩
        have HLS := Lib.hid (show l[j]? = some s by
          have h1 : (ys.drop j)[0]? = (l.drop j)[0]? := by rw [HYD.out]
          rw [List.getElem?_drop, List.getElem?_drop, Nat.add_zero, hs] at h1
          exact h1.symm)
        obtain ⟨ad2, he2, x0, x1, x2, x3, x4, x5, x6, x7, x8, x9, x10⟩ := at_S (Kd.R_reads' HR.out).2.2 hs
        injection he2 with he2
        subst he2
        have q : (j : Int) < (l.length : Int) := by omega
        have HK := Lib.hid (show j + 1 ≤ l.length by omega)
        have HW := Lib.hid (show wrap64 ((j : Int) + 1) = ((j + 1 : Nat) : Int) by have := HN.out; unfold wrap64; omega)
        have hz := below_alloc (Below.refl wr.heap.size wr) (.cells (encS s).toArray 34)
        have HRx := Lib.hid (Kd.R_below HR.out hz)
        have HBx := Lib.hid (show Below base w (wr.alloc (.cells (encS s).toArray 34)) from HB.out.alloc HBZ.out _)
        have KS := Lib.hid (heap_alloc_new wr (.cells (encS s).toArray 34))
        rw [arr_S] at HRx HBx KS
        clear hs hlt hj hz
        go_upto_region 8 with (fail)
        clear x0 x1 x2 x3 x4 x5 x6 x7 x8 x9 x10 q
        generalize (wr.alloc (.cells #[.int .u64 s.tr, .int .u64 s.id, .int .u64 s.par, .string s.svc, .string s.op, .int .i64 s.st, .int .i64 s.du, .int .i64 s.stt, .slice s.a.1 s.a.2.1 s.a.2.2, .slice s.e.1 s.e.2.1 s.e.2.2, .slice s.l.1 s.l.2.1 s.l.2.2] 34)) = w8 at HRx HBx KS ⊢
        generalize (Value.agg #[.int .u64 s.tr, .int .u64 s.id, .int .u64 s.par, .string s.svc, .string s.op, .int .i64 s.st, .int .i64 s.du, .int .i64 s.stt, .slice s.a.1 s.a.2.1 s.a.2.2, .slice s.e.1 s.e.2.1 s.e.2.2, .slice s.l.1 s.l.2.1 s.l.2.2]) = junk1
        obtain ⟨x0, x1, x2, x3, x4, x5, x6, x7, x8, x9, x10⟩ := blkS (s := s) KS.out
        have hcall := HP.out s (List.mem_of_getElem? HLS.out) w8 (HB0.out.trans HBx.out)
        rw [arr_S] at hcall
        have HCALL := Lib.hid hcall
        clear hcall
        go_wp2_with fail
        refine HCALL.out.mono ?_
        rintro e w9 ⟨rfl, hb⟩
        have HR9 := Lib.hid (Kd.R_below HRx.out hb)
        have HB9 := Lib.hid (show Below base w w9 from HBx.out.trans ⟨hb.os, hb.tape, hb.output, hb.size, fun k hk => hb.block k (by have := HBx.out.size; have := HBS.out; omega)⟩)
        have K9 := Lib.hid (block_below KS.out hb)
        clear hb x0 x1 x2 x3 x4 x5 x6 x7 x8 x9 x10
        cases hroot : p s with
        | true =>
          have hi : i < ys.length := by have := HIJ.out; have := HYL.out; have := HK.out; omega
          obtain ⟨z, hzz⟩ : ∃ z, ys[i]? = some z := ⟨_, List.getElem?_eq_getElem hi⟩
          obtain ⟨hr2, hb2, hf2, f0⟩ := row_put HR9.out hi s
          have f1 := hf2 1 (by omega)
          have f2 := hf2 2 (by omega)
          have f3 := hf2 3 (by omega)
          have f4 := hf2 4 (by omega)
          have f5 := hf2 5 (by omega)
          have f6 := hf2 6 (by omega)
          have f7 := hf2 7 (by omega)
          have f8 := hf2 8 (by omega)
          have f9 := hf2 9 (by omega)
          have f10 := hf2 10 (by omega)
          have HRP := Lib.hid hr2
          have HBP := Lib.hid (HB9.out.trans hb2)
          obtain ⟨ad3, he3, y0, y1, y2, y3, y4, y5, y6, y7, y8, y9, y10⟩ := at_S (Kd.R_reads' HR9.out).2.2 hzz
          injection he3 with he3
          subst he3
          obtain ⟨x0, x1, x2, x3, x4, x5, x6, x7, x8, x9, x10⟩ := blkS (s := s) K9.out
          have qi : (i : Int) < (l.length : Int) := by have := HYL.out; omega
          have HYT2 := Lib.hid (show (ys.set i s).take (i + 1) = (l.take (j + 1)).filter fun s => p s by
            obtain ⟨hk2, e⟩ := List.getElem?_eq_some_iff.1 HLS.out
            rw [take_set_snoc hi, HYT.out, List.take_succ_eq_append_getElem hk2, e, List.filter_append, List.filter_cons_of_pos hroot]
            rfl)
          have HYD2 := Lib.hid (show (ys.set i s).drop (j + 1) = l.drop (j + 1) by
            rw [List.drop_set_of_lt (by have := HIJ.out; omega), ← List.drop_drop, ← List.drop_drop, HYD.out])
          have HWI := Lib.hid (show wrap64 ((i : Int) + 1) = ((i + 1 : Nat) : Int) by have := HN.out; unfold wrap64; omega)
          obtain ⟨g, hg⟩ : ∃ g, ad = ⟨g, 0, none⟩ := by
            obtain ⟨g, cur, h, _⟩ := row_open HR9.out (by omega)
            exact ⟨g, h⟩
          have hadd : ad.add (i * 11) = ⟨g, i * 11, none⟩ := by rw [hg]; exact add_at g (i * 11)
          simp only [hadd] at f0 f1 f2 f3 f4 f5 f6 f7 f8 f9 f10 y0 y1 y2 y3 y4 y5 y6 y7 y8 y9 y10 HRP HBP
          clear hroot hr2 hb2 hf2 hzz hi hg
          go_upto_region 10 with (fail)
          change Hid (Kd.R kS 34 (((((((((((w9.setCell ⟨g, i * 11, none⟩ (.int .u64 s.tr)).setCell ⟨g, i * 11 + 1, none⟩ (.int .u64 s.id)).setCell ⟨g, i * 11 + 2, none⟩ (.int .u64 s.par)).setCell ⟨g, i * 11 + 3, none⟩ (.string s.svc)).setCell ⟨g, i * 11 + 4, none⟩ (.string s.op)).setCell ⟨g, i * 11 + 5, none⟩ (.int .i64 s.st)).setCell ⟨g, i * 11 + 6, none⟩ (.int .i64 s.du)).setCell ⟨g, i * 11 + 7, none⟩ (.int .i64 s.stt)).setCell ⟨g, i * 11 + 8, none⟩ (.slice s.a.1 s.a.2.1 s.a.2.2)).setCell ⟨g, i * 11 + 9, none⟩ (.slice s.e.1 s.e.2.1 s.e.2.2)).setCell ⟨g, i * 11 + 10, none⟩ (.slice s.l.1 s.l.2.1 s.l.2.2)) base (fun _ => True) (.slice (some ad) l.length c) (ys.set i s)) at HRP
          change Hid (Below base w (((((((((((w9.setCell ⟨g, i * 11, none⟩ (.int .u64 s.tr)).setCell ⟨g, i * 11 + 1, none⟩ (.int .u64 s.id)).setCell ⟨g, i * 11 + 2, none⟩ (.int .u64 s.par)).setCell ⟨g, i * 11 + 3, none⟩ (.string s.svc)).setCell ⟨g, i * 11 + 4, none⟩ (.string s.op)).setCell ⟨g, i * 11 + 5, none⟩ (.int .i64 s.st)).setCell ⟨g, i * 11 + 6, none⟩ (.int .i64 s.du)).setCell ⟨g, i * 11 + 7, none⟩ (.int .i64 s.stt)).setCell ⟨g, i * 11 + 8, none⟩ (.slice s.a.1 s.a.2.1 s.a.2.2)).setCell ⟨g, i * 11 + 9, none⟩ (.slice s.e.1 s.e.2.1 s.e.2.2)).setCell ⟨g, i * 11 + 10, none⟩ (.slice s.l.1 s.l.2.1 s.l.2.2))) at HBP
          generalize (((((((((((w9.setCell ⟨g, i * 11, none⟩ (.int .u64 s.tr)).setCell ⟨g, i * 11 + 1, none⟩ (.int .u64 s.id)).setCell ⟨g, i * 11 + 2, none⟩ (.int .u64 s.par)).setCell ⟨g, i * 11 + 3, none⟩ (.string s.svc)).setCell ⟨g, i * 11 + 4, none⟩ (.string s.op)).setCell ⟨g, i * 11 + 5, none⟩ (.int .i64 s.st)).setCell ⟨g, i * 11 + 6, none⟩ (.int .i64 s.du)).setCell ⟨g, i * 11 + 7, none⟩ (.int .i64 s.stt)).setCell ⟨g, i * 11 + 8, none⟩ (.slice s.a.1 s.a.2.1 s.a.2.2)).setCell ⟨g, i * 11 + 9, none⟩ (.slice s.e.1 s.e.2.1 s.e.2.2)).setCell ⟨g, i * 11 + 10, none⟩ (.slice s.l.1 s.l.2.1 s.l.2.2)) = w10 at HRP HBP ⊢
          clear x0 x1 x2 x3 x4 x5 x6 x7 x8 x9 x10 y0 y1 y2 y3 y4 y5 y6 y7 y8 y9 y10 f0 f1 f2 f3 f4 f5 f6 f7 f8 f9 f10 qi
          go_wp2
          go_roundw
          case rel => exact ⟨i + 1, j + 1, ys.set i s, HK.out, by rw [HWI.out], by rw [HW.out], Lib.hid (by have := HIJ.out; omega), Lib.hid (by rw [List.length_set]; exact HYL.out), HYT2, HYD2, HRP, HBP⟩
          case measure => exact meas_up HN.out HK.out
        | false =>
          have HYT2 := Lib.hid (show ys.take i = (l.take (j + 1)).filter fun s => p s by
            obtain ⟨hk2, e⟩ := List.getElem?_eq_some_iff.1 HLS.out
            rw [HYT.out, List.take_succ_eq_append_getElem hk2, e, List.filter_append, List.filter_cons_of_neg (by rw [hroot]; decide)]
            simp)
          have HYD2 := Lib.hid (show ys.drop (j + 1) = l.drop (j + 1) by rw [← List.drop_drop, ← List.drop_drop, HYD.out])
          clear hroot
          go_wp2
          go_roundw
          case rel => exact ⟨i, j + 1, ys, HK.out, rfl, by rw [HW.out], Lib.hid (by have := HIJ.out; omega), HYL, HYT2, HYD2, HR9, HB9⟩
          case measure => exact meas_up HN.out HK.out
      · have hkl : j = l.length := by omega
        subst hkl
        have q : decide ((l.length : Int) < (l.length : Int)) = false := decide_eq_false (by omega)
        rw [List.take_length] at HYT
        have hij := HIJ.out
        have hlc := (Kd.R_reads' HR.out).2.1
        obtain ⟨inf, hinf, hsz⟩ : ∃ inf, Try.prog.info? 34 = some inf ∧ inf.size = 11 := by
          obtain ⟨inf, h1, h2⟩ := Option.map_eq_some_iff.1 infoS
          simp only [Prod.mk.injEq] at h2
          exact ⟨inf, h1, h2.2.1⟩
        have kc1 := cut_from (P := Try.prog) 25 34 .i64 Try.underlying25 hinf 11 hsz (some ad) l.length c (i : Int) (by omega) (by omega)
        rw [Int.toNat_natCast, if_neg (by omega)] at kc1
        change ∀ W : World, _ = Result.ok (Value.slice (some (ad.add (i * 11))) (l.length - i) (c - i)) W at kc1
        have kc2 := cut_to (P := Try.prog) 25 34 .i64 Try.underlying25 hinf (some ad) l.length c (i : Int) (by omega) (by omega) hlc
        rw [Int.toNat_natCast] at kc2
        obtain ⟨W, hclr, hrW, hbW⟩ := row_clear HR.out (i := i) (by rw [HYL.out]; exact hij) (c - i)
        have hbc : ∀ ats ty cs args, builtin .clear ats ty cs args = (do pure (.value (← Builtin.clear_ ats ty args))) := fun _ _ _ _ => rfl
        have HRW := Lib.hid hrW
        have HBW := Lib.hid (HB.out.trans hbW)
        clear hlt hj hij hlc hinf hsz hrW hbW
        go_wp2
        go_ret
        exact ⟨_, rfl, by rw [← HYT.out]; exact HRW.out, HBW.out⟩

end Go.Proofs.Ytffggkhahambhaa.Tr

namespace Go.Proofs.Ytffggkhahambhaa.Tr
open Go.RowKit Go.Proofs.YtffggkhahambhaaW.PrintWords Go.Proofs.YtffggkhahambhaaW.PrintLast Go.Proofs.YtffggkhahambhaaW.PrintMore Go.Proofs.Ytffggkhahambhaa.Math Go.Proofs.Ytffggkhahambhaa.PAll Go.Proofs.Ytffggkhahambhaa.Span
set_option linter.unusedVariables false
set_option linter.unusedSimpArgs false
/-- What Holds tells. -/
def holdF (k : Nat) (t : S41) (x : S34) : Option Bool :=
  match numI x.f0 x.f1 x.f2 x.f5 x.f6 x.f7 t.f0 with
  | some n => filter_holds.f t.f1 (if 9223372036854775807 < n then 1 else cmpI (wrap64 n) t.f2.f2)
  | none => (filter_value.f k t.f0 x.f0 x.f1 x.f2 x.f3 x.f4 x.f5 x.f6 x.f7 x.f8 x.f9 x.f10).bind fun v => holdV k t.f1 t.f2.f0 t.f2.f1 t.f2.f2 t.f2.f3 v.1 v.2.1 v.2.2.1 v.2.2.2.1 v.2.2.2.2
def encT (t : S41) : List Value := [.string t.f0, .int .i64 t.f1, .int .i64 t.f2.f0, .string t.f2.f1, .int .i64 t.f2.f2, .bool t.f2.f3]
theorem holds_calls {k : Nat} {t : S41} {x : S34} {s : Sp} {r : Bool} {w : World} (hx : Is w s x) (h : holdF k t x = some r) :
    Calls Try.prog 15 #[.agg (encT t).toArray, .agg (encS s).toArray] w fun e w' => e = .returned (.bool r) ∧ Below w.heap.size w w' := by
  obtain ⟨A8, c8, A9, c9, A10, c10, he, l8, g8, l9, g9, l10, g10⟩ := k34_open hx
  rw [he]
  unfold holdF at h
  cases hn : numI x.f0 x.f1 x.f2 x.f5 x.f6 x.f7 t.f0 with
  | some n =>
    rw [hn] at h
    exact holds_num t.f0 t.f1 t.f2.f0 t.f2.f1 t.f2.f2 t.f2.f3 x.f0 x.f1 x.f2 x.f3 x.f4 x.f5 x.f6 x.f7 A8 c8 x.f8 A9 c9 x.f9 A10 c10 x.f10 n r w hn h
  | none =>
    rw [hn] at h
    obtain ⟨v, hv, h⟩ := Option.bind_eq_some_iff.1 h
    exact holds_val k t.f0 t.f1 t.f2.f0 t.f2.f1 t.f2.f2 t.f2.f3 x.f0 x.f1 x.f2 x.f3 x.f4 x.f5 x.f6 x.f7 A8 c8 x.f8 A9 c9 x.f9 A10 c10 x.f10 _ _ _ _ _ r w g8 l8 g9 l9 g10 l10 hn hv h
theorem at_T {w : World} {A : Option Addr} {n : Nat} {xs : List S41} (h : Kd.C k41 w A n xs) {k : Nat} {t : S41} (hk : xs[k]? = some t) : ∃ ad, A = some ad ∧ w.cell? (ad.add (k * 6)) = some (.string t.f0) ∧ w.cell? ⟨(ad.add (k * 6)).block, (ad.add (k * 6)).off + 1, none⟩ = some (.int .i64 t.f1) ∧ w.cell? ⟨(ad.add (k * 6)).block, (ad.add (k * 6)).off + 2, none⟩ = some (.int .i64 t.f2.f0) ∧ w.cell? ⟨(ad.add (k * 6)).block, (ad.add (k * 6)).off + 3, none⟩ = some (.string t.f2.f1) ∧ w.cell? ⟨(ad.add (k * 6)).block, (ad.add (k * 6)).off + 4, none⟩ = some (.int .i64 t.f2.f2) ∧ w.cell? ⟨(ad.add (k * 6)).block, (ad.add (k * 6)).off + 5, none⟩ = some (.bool t.f2.f3) := by
  obtain ⟨hkl, hs⟩ := List.getElem?_eq_some_iff.1 hk
  obtain ⟨hn, _, hC⟩ := h
  obtain ⟨ad, e, hcc⟩ := hC (by omega)
  obtain ⟨c, hcl, hK, hc⟩ := hcc k t hk
  have hK := k41_open hK
  subst hK
  have hc : ∀ j u, (encT t)[j]? = some u → w.cell? (ad.add (k * 6 + j)) = some u := hc
  exact ⟨ad, e, hc 0 _ rfl, by rw [← add_field _ _ 1 (by omega)]; exact hc 1 _ rfl, by rw [← add_field _ _ 2 (by omega)]; exact hc 2 _ rfl, by rw [← add_field _ _ 3 (by omega)]; exact hc 3 _ rfl, by rw [← add_field _ _ 4 (by omega)]; exact hc 4 _ rfl, by rw [← add_field _ _ 5 (by omega)]; exact hc 5 _ rfl⟩

set_option maxHeartbeats 2000000 in
/-- filter.Match's closure: does a term not hold? -/
theorem mt1_calls {k : Nat} {t : S41} {x : S34} {s : Sp} {r : Bool} {w : World} {bs : Nat} (hb : w.heap[bs]? = some (.cells (encS s).toArray 34 (0, 0))) (hx : Is w s x) (h : holdF k t x = some r) :
    Calls Try.prog 43 #[.agg (encT t).toArray, .pointer (some ⟨bs, 0, none⟩)] w fun e w' => e = .returned (.bool (!r)) ∧ Below w.heap.size w w' := by
  have hal := below_alloc (Below.refl w.heap.size w) (.cells (encT t).toArray 41)
  have h1 := block_below hb hal
  obtain ⟨x0, x1, x2, x3, x4, x5, x6, x7, x8, x9, x10⟩ := blkS h1
  have h2 := heap_alloc_new w (.cells (encT t).toArray 41)
  have y0 : (w.alloc (.cells (encT t).toArray 41)).cell? ⟨w.heap.size, 0, none⟩ = some (.string t.f0) := (blk_cell h2 0).trans rfl
  have y1 : (w.alloc (.cells (encT t).toArray 41)).cell? ⟨w.heap.size, 1, none⟩ = some (.int .i64 t.f1) := (blk_cell h2 1).trans rfl
  have y2 : (w.alloc (.cells (encT t).toArray 41)).cell? ⟨w.heap.size, 2, none⟩ = some (.int .i64 t.f2.f0) := (blk_cell h2 2).trans rfl
  have y3 : (w.alloc (.cells (encT t).toArray 41)).cell? ⟨w.heap.size, 3, none⟩ = some (.string t.f2.f1) := (blk_cell h2 3).trans rfl
  have y4 : (w.alloc (.cells (encT t).toArray 41)).cell? ⟨w.heap.size, 4, none⟩ = some (.int .i64 t.f2.f2) := (blk_cell h2 4).trans rfl
  have y5 : (w.alloc (.cells (encT t).toArray 41)).cell? ⟨w.heap.size, 5, none⟩ = some (.bool t.f2.f3) := (blk_cell h2 5).trans rfl
  have hcall := holds_calls (hx.below hal) h
  have HCALL := Lib.hid hcall
  have HAL := Lib.hid hal
  clear hcall hal h1 h2 hb hx h
  rw [arr_S] at HCALL
  unfold encT at HCALL HAL y0 y1 y2 y3 y4 y5 x0 x1 x2 x3 x4 x5 x6 x7 x8 x9 x10 ⊢
  go_enter Try.func43, Try.ntmps43
  go_wp2_with fail
  refine HCALL.out.mono ?_
  rintro e w1 ⟨rfl, hb1⟩
  have HB1 := Lib.hid (below_step HAL.out hb1)
  clear hb1 y0 y1 y2 y3 y4 y5 x0 x1 x2 x3 x4 x5 x6 x7 x8 x9 x10 HCALL
  go_wp2
  go_ret
  exact ⟨rfl, HB1.out⟩

set_option maxHeartbeats 4000000 in
set_option maxRecDepth 100000 in
theorem ixt_calls {A : Option Addr} {c : Nat} {ts : List S41} {x : S34} {s : Sp} {p : S41 → Bool} {w : World} {bs : Nat} (hP : ∀ t ∈ ts, ∃ k, holdF k t x = some (p t)) (hb : w.heap[bs]? = some (.cells (encS s).toArray 34 (0, 0))) (hx : Is w s x) (hr : Kd.C k41 w A ts.length ts) (hl : ts.length ≤ c) (hn : ts.length ≤ 1000000) :
    Calls Try.prog 65 #[.slice A ts.length c, .func (.func 43) #[] #[.pointer (some ⟨bs, 0, none⟩)]] w fun e w' => ∃ i : Int, e = .returned (.int .i64 i) ∧ decide (i ≥ 0) = !(ts.all p) ∧ Below w.heap.size w w' := by
  have HP := Lib.hid hP
  have HBS := Lib.hid hb
  have HX := Lib.hid hx
  have HR := Lib.hid hr
  have HN := Lib.hid hn
  clear hP hb hx hr hn
  go_enter Try.func65, Try.ntmps65
  go_wp2
  go_loopw [5, 8] (fun _ i wr => ∃ k : Nat, k ≤ ts.length ∧ i = .int .i64 k ∧ Hid (∀ t ∈ ts.take k, p t = true) ∧ Hid (Below w.heap.size w wr)) (fun _ i _ => ts.length - (intOf i).toNat)
  case atStart => exact ⟨0, by omega, rfl, Lib.hid (fun s hs => by simp at hs), Lib.hid (Below.refl _ _)⟩
  case round =>
    obtain ⟨k, hk, rfl, HA, HB⟩ := hrel
    by_cases hlt : k < ts.length
    · obtain ⟨t, hs⟩ : ∃ t, ts[k]? = some t := ⟨_, List.getElem?_eq_getElem hlt⟩
      obtain ⟨ad, rfl, x0, x1, x2, x3, x4, x5⟩ := at_T (Kd.C_below HR.out HB.out) hs
      have HTk := Lib.hid (show ts.take (k + 1) = ts.take k ++ [t] by
        obtain ⟨hk2, e⟩ := List.getElem?_eq_some_iff.1 hs
        rw [List.take_succ_eq_append_getElem hk2, e])
      have q : (k : Int) < (ts.length : Int) := by omega
      have HK := Lib.hid (show k + 1 ≤ ts.length by omega)
      have HW := Lib.hid (show wrap64 ((k : Int) + 1) = ((k + 1 : Nat) : Int) by have := HN.out; unfold wrap64; omega)
      have HGS := Lib.hid (List.mem_of_getElem? hs)
      obtain ⟨kf, hkf⟩ := HP.out t (List.mem_of_getElem? hs)
      have hcall := mt1_calls (block_below HBS.out HB.out) (HX.out.below HB.out) hkf
      unfold encT at hcall
      have HCALL := Lib.hid hcall
      clear hs hlt hk hcall hkf
      go_wp2_with fail
      refine HCALL.out.mono ?_
      rintro e w1 ⟨rfl, hb⟩
      have HB1 := Lib.hid (below_step HB.out hb)
      clear hb x0 x1 x2 x3 x4 x5
      cases hroot : p t with
      | true =>
        have HRT := Lib.hid hroot
        clear hroot
        go_wp2
        go_roundw
        case rel => exact ⟨k + 1, HK.out, by rw [HW.out], Lib.hid (by rw [HTk.out]; intro y hy; rcases List.mem_append.1 hy with hy | hy; exact HA.out y hy; rw [List.mem_singleton.1 hy]; exact HRT.out), HB1⟩
        case measure => exact meas_up HN.out HK.out
      | false =>
        have HRT := Lib.hid hroot
        clear hroot
        go_wp2
        go_ret
        refine ⟨k, rfl, ?_, HB1.out⟩
        have e1 : ts.all p = false := by
          rw [List.all_eq_false]
          exact ⟨t, HGS.out, by rw [HRT.out]; decide⟩
        rw [e1]
        simp
    · have hkl : k = ts.length := by omega
      subst hkl
      have q : decide ((ts.length : Int) < (ts.length : Int)) = false := decide_eq_false (by omega)
      rw [List.take_length] at HA
      clear hlt hk
      go_wp2
      go_ret
      refine ⟨-1, rfl, ?_, HB.out⟩
      rw [List.all_eq_true.2 HA.out]
      rfl

set_option maxHeartbeats 2000000 in
theorem cft_calls {A : Option Addr} {c : Nat} {ts : List S41} {x : S34} {s : Sp} {p : S41 → Bool} {w : World} {bs : Nat} (hP : ∀ t ∈ ts, ∃ k, holdF k t x = some (p t)) (hb : w.heap[bs]? = some (.cells (encS s).toArray 34 (0, 0))) (hx : Is w s x) (hr : Kd.C k41 w A ts.length ts) (hl : ts.length ≤ c) (hn : ts.length ≤ 1000000) :
    Calls Try.prog 42 #[.slice A ts.length c, .func (.func 43) #[] #[.pointer (some ⟨bs, 0, none⟩)]] w fun e w' => e = .returned (.bool (!(ts.all p))) ∧ Below w.heap.size w w' := by
  have HC := Lib.hid (ixt_calls hP hb hx hr hl hn)
  clear hP hb hx hr hl hn
  go_enter Try.func42, Try.ntmps42
  go_wp2_with fail
  refine HC.out.mono ?_
  rintro e w1 ⟨i, rfl, hi, hb⟩
  have HI := Lib.hid hi
  have HB := Lib.hid hb
  clear hi hb HC
  go_wp2
  go_ret
  exact ⟨by rw [← HI.out]; rfl, HB.out⟩

set_option maxHeartbeats 2000000 in
theorem match_calls {A : Option Addr} {c : Nat} {ts : List S41} {o : Int} {x : S34} {s : Sp} {p : S41 → Bool} {w : World} (hP : ∀ t ∈ ts, ∃ k, holdF k t x = some (p t)) (hx : Is w s x) (hr : Kd.C k41 w A ts.length ts) (hl : ts.length ≤ c) (hn : ts.length ≤ 1000000) :
    Calls Try.prog 16 #[.agg #[.slice A ts.length c, .int .i64 o], .agg (encS s).toArray] w fun e w' => e = .returned (.bool (ts.all p)) ∧ Below w.heap.size w w' := by
  have hal := below_alloc (below_alloc (Below.refl w.heap.size w) (.cells #[.slice A ts.length c, .int .i64 o] 24)) (.cells (encS s).toArray 34)
  have k1 : ((w.alloc (.cells #[.slice A ts.length c, .int .i64 o] 24)).alloc (.cells (encS s).toArray 34)).heap[w.heap.size]? = some (.cells #[.slice A ts.length c, .int .i64 o] 24 (0, 0)) := block_below (heap_alloc_new w _) (below_alloc (Below.refl _ _) _)
  have k2 : ((w.alloc (.cells #[.slice A ts.length c, .int .i64 o] 24)).alloc (.cells (encS s).toArray 34)).heap[(w.alloc (.cells #[.slice A ts.length c, .int .i64 o] 24)).heap.size]? = some (.cells (encS s).toArray 34 (0, 0)) := heap_alloc_new _ _
  rw [show (w.alloc (.cells #[.slice A ts.length c, .int .i64 o] 24)).heap.size = w.heap.size + 1 by simp] at k2
  have y0 : ((w.alloc (.cells #[.slice A ts.length c, .int .i64 o] 24)).alloc (.cells (encS s).toArray 34)).cell? ⟨w.heap.size, 0, none⟩ = some (.slice A ts.length c) := (blk_cell k1 0).trans rfl
  have HC := Lib.hid (cft_calls hP k2 (hx.below hal) (Kd.C_below hr hal) hl hn)
  have HAL := Lib.hid hal
  clear hP hx hr hl hn k1 k2 hal
  rw [arr_S] at HC HAL y0 ⊢
  go_enter Try.func16, Try.ntmps16
  go_wp2_with fail
  refine HC.out.mono ?_
  rintro e w1 ⟨rfl, hb⟩
  have HB := Lib.hid (below_step HAL.out hb)
  clear hb HC y0
  go_wp2
  go_ret
  exact ⟨rfl, HB.out⟩

set_option maxHeartbeats 2000000 in
theorem all1_calls {A : Option Addr} {c : Nat} {ts : List S41} {o : Int} {x : S34} {s : Sp} {p : S41 → Bool} {w : World} {bq : Nat} (hq : w.heap[bq]? = some (.cells #[.slice A ts.length c, .int .i64 o] 24 (0, 0))) (hP : ∀ t ∈ ts, ∃ k, holdF k t x = some (p t)) (hx : Is w s x) (hr : Kd.C k41 w A ts.length ts) (hl : ts.length ≤ c) (hn : ts.length ≤ 1000000) :
    Calls Try.prog 25 #[.agg (encS s).toArray, .pointer (some ⟨bq, 0, none⟩)] w fun e w' => e = .returned (.bool (!(ts.all p))) ∧ Below w.heap.size w w' := by
  have hal := below_alloc (Below.refl w.heap.size w) (.cells (encS s).toArray 34)
  obtain ⟨x0, x1, x2, x3, x4, x5, x6, x7, x8, x9, x10⟩ := blkS (heap_alloc_new w (.cells (encS s).toArray 34))
  have k1 := block_below hq hal
  have y0 : (w.alloc (.cells (encS s).toArray 34)).cell? ⟨bq, 0, none⟩ = some (.slice A ts.length c) := (blk_cell k1 0).trans rfl
  have y1 : (w.alloc (.cells (encS s).toArray 34)).cell? ⟨bq, 1, none⟩ = some (.int .i64 o) := (blk_cell k1 1).trans rfl
  have HC := Lib.hid (match_calls (o := o) hP (hx.below hal) (Kd.C_below hr hal) hl hn)
  have HAL := Lib.hid hal
  clear hP hx hr hl hn k1 hal hq
  rw [arr_S] at HC HAL y0 y1 x0 x1 x2 x3 x4 x5 x6 x7 x8 x9 x10 ⊢
  go_enter Try.func25, Try.ntmps25
  go_wp2_with fail
  refine HC.out.mono ?_
  rintro e w1 ⟨rfl, hb⟩
  have HB := Lib.hid (below_step HAL.out hb)
  clear hb HC y0 y1 x0 x1 x2 x3 x4 x5 x6 x7 x8 x9 x10
  go_wp2
  go_ret
  exact ⟨rfl, HB.out⟩
end Go.Proofs.Ytffggkhahambhaa.Tr
