/- ref26.told (chapter 26), by hand; the stack of those still to be told, plainly. -/
import Derived.Test.YtoigebnhnkdbbaaTrCount
namespace Go.Proofs.Ytoigebnhnkdbbaa.Tr
open Go.RowKit Go.Proofs.YtoigebnhnkdbbaaW.PrintWords Go.Proofs.YtoigebnhnkdbbaaW.PrintLast Go.Proofs.YtoigebnhnkdbbaaW.PrintMore Go.Proofs.Ytoigebnhnkdbbaa.Math Go.Proofs.Ytoigebnhnkdbbaa.PAll
set_option linter.unusedVariables false
set_option linter.unusedSimpArgs false

set_option maxHeartbeats 4000000 in
set_option maxRecDepth 100000 in
theorem told_calls (A : Option Addr) (c : Nat) (l : List Ln) (id : Int) (w : World) (hr : Kd.C kL w A l.length l) (hn : l.length ≤ 1000000) :
    Calls Try.prog 25 #[.slice A l.length c, .int .u64 id] w fun e w' => e = .returned (.bool (toldId l id)) ∧ w = w' := by
  have HR := Lib.hid hr
  have HN := Lib.hid hn
  clear hr hn
  go_enter Try.func25, Try.ntmps25
  go_wp2
  go_loopw [5] (fun i wr => ∃ k : Nat, k ≤ l.length ∧ i = .int .i64 k ∧ Hid (toldId (l.take k) id = false) ∧ w = wr) (fun i _ => l.length - (intOf i).toNat)
  case atStart => exact ⟨0, by omega, rfl, Lib.hid rfl, rfl⟩
  case round =>
    obtain ⟨k, hk, rfl, HA, rfl⟩ := hrel
    by_cases hlt : k < l.length
    · obtain ⟨s, hs⟩ : ∃ s, l[k]? = some s := ⟨_, List.getElem?_eq_getElem hlt⟩
      obtain ⟨ad, rfl, x0, x1, x2, x3, x4, x5, x6, x7, x8, x9, x10, x11, x12⟩ := at_L HR.out hs
      have HTk := Lib.hid (show toldId (l.take (k + 1)) id = (toldId (l.take k) id || s.sp.id == id) by
        obtain ⟨hk2, e⟩ := List.getElem?_eq_some_iff.1 hs
        rw [List.take_succ_eq_append_getElem hk2, e, toldId_snoc])
      have HSM := Lib.hid (List.mem_of_getElem? hs)
      have q : (k : Int) < (l.length : Int) := by omega
      have HK := Lib.hid (show k + 1 ≤ l.length by omega)
      have HW := Lib.hid (show wrap64 ((k : Int) + 1) = ((k + 1 : Nat) : Int) by have := HN.out; unfold wrap64; omega)
      clear hs hlt hk
      by_cases he : s.sp.id = id
      · have e1 : (s.sp.id == id) = true := beq_iff_eq.2 he
        have HE := Lib.hid (show toldId l id = true from toldId_iff.2 ⟨s, HSM.out, he⟩)
        clear he
        go_wp2
        go_ret
        exact ⟨by rw [HE.out]; rfl, rfl⟩
      · have e1 : (s.sp.id == id) = false := beq_eq_false_iff_ne.2 he
        have HE := Lib.hid (show toldId (l.take (k + 1)) id = false by rw [HTk.out, HA.out, e1]; rfl)
        clear he
        go_wp2
        go_roundw
        case rel => exact ⟨k + 1, HK.out, by rw [HW.out], HE, by first | rfl | trivial⟩
        case measure => exact meas_up HN.out HK.out
    · have hkl : k = l.length := by omega
      subst hkl
      have q : decide ((l.length : Int) < (l.length : Int)) = false := decide_eq_false (by omega)
      rw [List.take_length] at HA
      clear hlt hk
      go_wp2
      go_ret
      exact ⟨by rw [HA.out]; rfl, rfl⟩

/-! ### the stack, plainly -/
/-- What comes of a stack: its last one is told first. -/
def runS (C : List Sp) (st out : List Ln) : List Ln := st.reverse.foldl (fun o y => tell C y.sp y.d y.o o) out
theorem runS_nil (C : List Sp) (out : List Ln) : runS C [] out = out := rfl
theorem runS_snoc (C : List Sp) (st : List Ln) (x : Ln) (out : List Ln) : runS C (st ++ [x]) out = runS C st (tell C x.sp x.d x.o out) := by simp [runS]
theorem runS_app (C : List Sp) (st s2 : List Ln) (out : List Ln) : runS C (st ++ s2) out = runS C st (runS C s2 out) := by simp [runS]
/-- The kids behind a place, as they are pushed: the last first. -/
def pushS (K : List Sp) (id d : Int) : List Ln := (kidsOf K id).reverse.map fun k => ⟨k, d + 1, false⟩
theorem pushS_drop {C : List Sp} {i : Nat} {s : Sp} (hs : C[i]? = some s) (id d : Int) : pushS (C.drop i) id d = if s.par = id then pushS (C.drop (i + 1)) id d ++ [⟨s, d + 1, false⟩] else pushS (C.drop (i + 1)) id d := by
  obtain ⟨hi, e⟩ := List.getElem?_eq_some_iff.1 hs
  rw [List.drop_eq_getElem_cons hi, e]
  unfold pushS kidsOf
  by_cases h : s.par = id
  · rw [if_pos h, List.filter_cons, if_pos (beq_iff_eq.2 h)]
    simp
  · rw [if_neg h, List.filter_cons, if_neg (by simpa using h)]
theorem pushS_end {C : List Sp} {i : Nat} (hi : C.length ≤ i) (id d : Int) : pushS (C.drop i) id d = [] := by rw [List.drop_eq_nil_of_le hi]; rfl
theorem runS_push (C : List Sp) (id d : Int) (out : List Ln) : runS C (pushS C id d) out = (kidsOf C id).foldl (fun o2 k => tell C k (d + 1) false o2) out := by
  unfold runS pushS
  rw [← List.map_reverse, List.reverse_reverse, List.foldl_map]
theorem pushS_mem {C D : List Sp} (hD : ∀ s ∈ D, s ∈ C) {id d : Int} {y : Ln} (h : y ∈ pushS D id d) : y.sp ∈ C ∧ y.d = d + 1 := by
  unfold pushS at h
  obtain ⟨k, hk, rfl⟩ := List.mem_map.1 h
  exact ⟨hD _ (kids_mem.1 (List.mem_reverse.1 hk)).1, rfl⟩
theorem pushS_len (C : List Sp) (i : Nat) (id d : Int) : (pushS (C.drop i) id d).length ≤ C.length := by
  unfold pushS kidsOf
  rw [List.length_map, List.length_reverse]
  refine Nat.le_trans (List.length_filter_le _ _) ?_
  rw [List.length_drop]
  omega
/-- Where the telling has come to. -/
structure Bs (C : List Sp) (res st out : List Ln) : Prop where
  run : runS C st out = res
  mem : ∀ y ∈ st, y.sp ∈ C ∧ 0 ≤ y.d ∧ y.d ≤ (out.length : Int)
  sum : out.length + left C out = C.length
  few : st.length + C.length * left C out ≤ C.length * C.length + 1
theorem Bs.start {C : List Sp} {out : List Ln} {x : Ln} (hx : x.sp ∈ C) (hd : x.d = 0) (hs : out.length + left C out = C.length) : Bs C (tell C x.sp x.d x.o out) [x] out :=
  ⟨rfl, fun y hy => by rw [List.mem_singleton.1 hy]; exact ⟨hx, by omega, by omega⟩, hs, by
    have h : left C out ≤ C.length := by omega
    have := Nat.mul_le_mul_left C.length h
    simp only [List.length_singleton]; omega⟩
theorem Bs.told {C : List Sp} (hC : Dis C) {res st out : List Ln} {x : Ln} (h : Bs C res (st ++ [x]) out) (ht : toldId out x.sp.id = true) : Bs C res st out :=
  ⟨by have := h.run; rwa [runS_snoc, tell_eq hC (h.mem x (by simp)).1, if_pos ht] at this, fun y hy => h.mem y (List.mem_append_left _ hy), h.sum, by have := h.few; rw [List.length_append, List.length_singleton] at this; omega⟩
theorem Bs.one {C : List Sp} (hC : Dis C) {res st out : List Ln} {x : Ln} (h : Bs C res (st ++ [x]) out) (ht : toldId out x.sp.id = false) : (out ++ [x]).length + left C (out ++ [x]) = C.length ∧ left C (out ++ [x]) + 1 = left C out := by
  have h1 := left_one (d := x.d) (o := x.o) hC (h.mem x (by simp)).1 ht
  have h2 := h.sum
  refine ⟨?_, h1⟩
  rw [List.length_append, List.length_singleton]
  show out.length + 1 + left C (out ++ [⟨x.sp, x.d, x.o⟩]) = _
  omega
theorem Bs.zero {C : List Sp} (hC : Dis C) {res st out : List Ln} {x : Ln} (h : Bs C res (st ++ [x]) out) (ht : toldId out x.sp.id = false) (h0 : x.sp.id = 0) : Bs C res st (out ++ [x]) := by
  obtain ⟨h1, h2⟩ := h.one hC ht
  refine ⟨?_, fun y hy => ?_, h1, ?_⟩
  · have := h.run
    rwa [runS_snoc, tell_eq hC (h.mem x (by simp)).1, if_neg (by rw [ht]; decide), if_pos h0] at this
  · have := h.mem y (List.mem_append_left _ hy)
    refine ⟨this.1, this.2.1, ?_⟩
    rw [List.length_append, List.length_singleton]
    omega
  · have := h.few
    rw [List.length_append, List.length_singleton, ← h2, Nat.mul_add] at this
    omega
theorem Bs.push {C : List Sp} (hC : Dis C) {res st out : List Ln} {x : Ln} (h : Bs C res (st ++ [x]) out) (ht : toldId out x.sp.id = false) (h0 : x.sp.id ≠ 0) : Bs C res (st ++ pushS (C.drop 0) x.sp.id x.d) (out ++ [x]) := by
  obtain ⟨h1, h2⟩ := h.one hC ht
  have hx := h.mem x (by simp)
  refine ⟨?_, fun y hy => ?_, h1, ?_⟩
  · have := h.run
    rw [runS_snoc, tell_eq hC hx.1, if_neg (by rw [ht]; decide), if_neg h0] at this
    rw [runS_app, List.drop_zero, runS_push]
    exact this
  · rcases List.mem_append.1 hy with hy | hy
    · have := h.mem y (List.mem_append_left _ hy)
      refine ⟨this.1, this.2.1, ?_⟩
      rw [List.length_append, List.length_singleton]
      omega
    · obtain ⟨h3, h4⟩ := pushS_mem (C := C) (fun s hs => by rwa [List.drop_zero] at hs) hy
      refine ⟨h3, by omega, ?_⟩
      rw [List.length_append, List.length_singleton]
      omega
  · have h3 := h.few
    have h4 := pushS_len C 0 x.sp.id x.d
    rw [List.length_append, List.length_singleton, ← h2, Nat.mul_add] at h3
    rw [List.length_append]
    omega
theorem Bs.done {C : List Sp} {res out : List Ln} (h : Bs C res [] out) : res = out := h.run.symm.trans (runS_nil C out)
theorem Bs.end_ {C : List Sp} (hC : Dis C) {res st out : List Ln} {x : Ln} (h : Bs C res (st ++ [x]) out) (ht : toldId out x.sp.id = false) {j : Nat} (hz : x.sp.id = 0 → j = C.length) (hn : x.sp.id ≠ 0 → j = 0) : Bs C res (st ++ pushS (C.drop j) x.sp.id x.d) (out ++ [x]) := by
  by_cases h0 : x.sp.id = 0
  · rw [pushS_end (by rw [hz h0]; exact Nat.le_refl _), List.append_nil]
    exact h.zero hC ht h0
  · rw [hn h0]
    exact h.push hC ht h0
theorem Bs.meas0 {C : List Sp} {res st out : List Ln} (h : Bs C res st out) : out.length ≤ C.length ∧ st.length ≤ C.length * C.length + 1 := by
  have h1 := h.sum
  have h2 := h.few
  exact ⟨by omega, by omega⟩
theorem meas_told {n a s m : Nat} (h : s + 1 = m) : (n + 1) * (n - a) + s < (n + 1) * (n - a) + m := by omega
theorem meas_push {n a s m q : Nat} (ha : a + 1 ≤ n) (h : s + 1 = m) (hq : q ≤ n) : (n + 1) * (n - (a + 1)) + (s + q) < (n + 1) * (n - a) + m := by
  have e : n - a = n - (a + 1) + 1 := by omega
  rw [e, Nat.mul_add, Nat.mul_one]
  omega
/-- How much is still to be done. -/
def mS (C : List Sp) (st out : List Ln) : Nat := (C.length + 1) * left C out + st.length
end Go.Proofs.Ytoigebnhnkdbbaa.Tr

namespace Go.Proofs.Ytoigebnhnkdbbaa.Tr
open Go.RowKit Go.Proofs.YtoigebnhnkdbbaaW.PrintWords Go.Proofs.YtoigebnhnkdbbaaW.PrintLast Go.Proofs.YtoigebnhnkdbbaaW.PrintMore Go.Proofs.Ytoigebnhnkdbbaa.Math Go.Proofs.Ytoigebnhnkdbbaa.PAll
set_option linter.unusedVariables false
set_option linter.unusedSimpArgs false

theorem row_keepL {w w1 : World} {base : Nat} {v : Value} {xs : List Ln} {row : Option Nat} (h : Kd.R kL 40 w base (fun _ => True) v xs) (hg : w.grownBy w1 row) (hne : ∀ k, v.ownBlock = some k → row ≠ some k) : Kd.R kL 40 w1 base (fun _ => True) v xs := by
  have h4 := Kd.R_flat (ok' := fun k => some k = v.ownBlock) (fun {_ _ _ _} hm => hm) h (fun k hk _ => hk.symm)
  exact Kd.R_mono (Kd.R_step h4 fun k hk hlt => hg.block k hlt (fun e => hne k hk.symm e.symm)) (fun _ _ => trivial)
theorem row_ltL {w : World} {base : Nat} {v : Value} {xs : List Ln} (h : Kd.R kL 40 w base (fun _ => True) v xs) : ∀ k, v.ownBlock = some k → base ≤ k ∧ k < w.heap.size := by
  obtain ⟨_, inner, ho, _⟩ := h
  exact fun k hk => ⟨own_base ho k hk, own_lt ho k hk⟩
theorem arr_L (x : Ln) : (encL x).toArray = #[.int .u64 x.sp.tr, .int .u64 x.sp.id, .int .u64 x.sp.par, .string x.sp.svc, .string x.sp.op, .int .i64 x.sp.st, .int .i64 x.sp.du, .int .i64 x.sp.stt, .slice x.sp.a.1 x.sp.a.2.1 x.sp.a.2.2, .slice x.sp.e.1 x.sp.e.2.1 x.sp.e.2.2, .slice x.sp.l.1 x.sp.l.2.1 x.sp.l.2.2, .int .i64 x.d, .bool x.o] := rfl
/-- The world while the stack is worked off. -/
structure Bw (w wr : World) (N : Nat) (vs vo : Value) (st out : List Ln) : Prop where
  bw : Below N w wr
  nl : N ≤ w.heap.size
  rs : Kd.R kL 40 wr N (fun _ => True) vs st
  ro : Kd.R kL 40 wr N (fun _ => True) vo out
  ap : ∀ k, vs.ownBlock = some k → vo.ownBlock ≠ some k
theorem Bw.size {w wr : World} {N : Nat} {vs vo : Value} {st out : List Ln} (h : Bw w wr N vs vo st out) : N ≤ wr.heap.size := Nat.le_trans h.nl h.bw.size
theorem Bw.next {w wr w1 : World} {N : Nat} {vs vo : Value} {st out : List Ln} (h : Bw w wr N vs vo st out) (hb : Below wr.heap.size wr w1) : Bw w w1 N vs vo st out :=
  ⟨⟨hb.os.trans h.bw.os, hb.tape.trans h.bw.tape, hb.output.trans h.bw.output, Nat.le_trans h.bw.size hb.size, fun k hk => (hb.block k (by have := h.size; omega)).trans (h.bw.block k hk)⟩, h.nl, Kd.R_below h.rs hb, Kd.R_below h.ro hb, h.ap⟩
/-- .. with a cell of its own beside it. -/
structure Bx (w wr : World) (N : Nat) (vs vo : Value) (st out : List Ln) (b : Nat) (x : Ln) : Prop where
  bw : Bw w wr N vs vo st out
  blk : wr.heap[b]? = some (.cells (encL x).toArray 40 (0, 0))
  ns : vs.ownBlock ≠ some b
  no : vo.ownBlock ≠ some b
theorem Bx.next {w wr w1 : World} {N : Nat} {vs vo : Value} {st out : List Ln} {b : Nat} {x : Ln} (h : Bx w wr N vs vo st out b x) (hb : Below wr.heap.size wr w1) : Bx w w1 N vs vo st out b x :=
  ⟨h.bw.next hb, block_below h.blk hb, h.ns, h.no⟩
theorem Bx.of {w wr : World} {N : Nat} {vs vo : Value} {st out : List Ln} (h : Bw w wr N vs vo st out) (x : Ln) : Bx w (wr.alloc (.cells (encL x).toArray 40)) N vs vo st out wr.heap.size x := by
  have hb := below_alloc (Below.refl wr.heap.size wr) (.cells (encL x).toArray 40)
  exact ⟨h.next hb, heap_alloc_new wr _, fun e => by have := (row_ltL h.rs _ e).2; omega, fun e => by have := (row_ltL h.ro _ e).2; omega⟩
/-- The row told grows. -/
theorem Bx.out {w wr w1 : World} {N : Nat} {vs vo vo1 : Value} {st out out1 : List Ln} {b : Nat} {x : Ln} (h : Bx w wr N vs vo st out b x) (hb : Below N wr w1) (hg : wr.grownBy w1 vo.ownBlock) (hr : Kd.R kL 40 w1 N (fun _ => True) vo1 out1) (hn : vo1.ownBlock = vo.ownBlock ∨ ∃ k, vo1.ownBlock = some k ∧ wr.heap.size ≤ k) : Bx w w1 N vs vo1 st out1 b x := by
  have hbl := blk_lt h.blk
  refine ⟨⟨h.bw.bw.trans hb, h.bw.nl, row_keepL h.bw.rs hg (fun k hk e => h.bw.ap k hk e), hr, fun k hk e => ?_⟩, (hg.block b hbl (fun e => h.no e.symm)).trans h.blk, h.ns, fun e => ?_⟩
  · rcases hn with hn | ⟨k2, hn, hk2⟩
    · exact h.bw.ap k hk (hn ▸ e)
    · have h3 := (row_ltL h.bw.rs k hk).2
      rw [hn] at e
      injection e with e
      omega
  · rcases hn with hn | ⟨k2, hn, hk2⟩
    · exact h.no (hn ▸ e)
    · rw [hn] at e
      injection e with e
      omega
/-- The stack grows. -/
theorem Bx.stk {w wr w1 : World} {N : Nat} {vs vo vs1 : Value} {st out st1 : List Ln} {b : Nat} {x : Ln} (h : Bx w wr N vs vo st out b x) (hb : Below N wr w1) (hg : wr.grownBy w1 vs.ownBlock) (hr : Kd.R kL 40 w1 N (fun _ => True) vs1 st1) (hn : vs1.ownBlock = vs.ownBlock ∨ ∃ k, vs1.ownBlock = some k ∧ wr.heap.size ≤ k) : Bx w w1 N vs1 vo st1 out b x := by
  have hbl := blk_lt h.blk
  refine ⟨⟨h.bw.bw.trans hb, h.bw.nl, hr, row_keepL h.bw.ro hg (fun k hk e => h.bw.ap k e hk), fun k hk e => ?_⟩, (hg.block b hbl (fun e => h.ns e.symm)).trans h.blk, fun e => ?_, h.no⟩
  · rcases hn with hn | ⟨k2, hn, hk2⟩
    · exact h.bw.ap k (hn ▸ hk) e
    · have h3 := (row_ltL h.bw.ro k e).2
      rw [hn] at hk
      injection hk with hk
      omega
  · rcases hn with hn | ⟨k2, hn, hk2⟩
    · exact h.ns (hn ▸ e)
    · rw [hn] at e
      injection e with e
      omega
theorem Bx.grown0 {w wr w1 : World} {N : Nat} {vs vo : Value} {st out : List Ln} {b : Nat} {x : Ln} (h : Bx w wr N vs vo st out b x) (hg : wr.grownBy w1 none) : Bx w w1 N vs vo st out b x :=
  h.next (Below.grown (Below.refl _ _) hg (Nat.le_refl _) (fun _ h => by cases h))
theorem Bw.pop {w wr : World} {N : Nat} {A : Option Addr} {m c : Nat} {vo : Value} {st out : List Ln} {x : Ln} (h : Bw w wr N (.slice A m c) vo (st ++ [x]) out) (hm : st.length + 1 = m) : Bw w wr N (.slice A st.length c) vo st out := by
  have h1 := Kd.R_take (m := st.length) h.rs (by simp)
  rw [List.take_left] at h1
  exact ⟨h.bw, h.nl, h1, h.ro, fun k hk => h.ap k (by cases A with | none => exact hk | some a => exact hk)⟩
end Go.Proofs.Ytoigebnhnkdbbaa.Tr

namespace Go.Proofs.Ytoigebnhnkdbbaa.Tr
open Go.RowKit Go.Proofs.YtoigebnhnkdbbaaW.PrintWords Go.Proofs.YtoigebnhnkdbbaaW.PrintLast Go.Proofs.YtoigebnhnkdbbaaW.PrintMore Go.Proofs.Ytoigebnhnkdbbaa.Math Go.Proofs.Ytoigebnhnkdbbaa.PAll
set_option linter.unusedVariables false
set_option linter.unusedSimpArgs false
theorem blkL {w : World} {g : Nat} {t : TypeId} {x : Ln} (h : w.heap[g]? = some (.cells (encL x).toArray t (0, 0))) : w.cell? ⟨g, 0, none⟩ = some (.int .u64 x.sp.tr) ∧ w.cell? ⟨g, 1, none⟩ = some (.int .u64 x.sp.id) ∧ w.cell? ⟨g, 2, none⟩ = some (.int .u64 x.sp.par) ∧ w.cell? ⟨g, 3, none⟩ = some (.string x.sp.svc) ∧ w.cell? ⟨g, 4, none⟩ = some (.string x.sp.op) ∧ w.cell? ⟨g, 5, none⟩ = some (.int .i64 x.sp.st) ∧ w.cell? ⟨g, 6, none⟩ = some (.int .i64 x.sp.du) ∧ w.cell? ⟨g, 7, none⟩ = some (.int .i64 x.sp.stt) ∧ w.cell? ⟨g, 8, none⟩ = some (.slice x.sp.a.1 x.sp.a.2.1 x.sp.a.2.2) ∧ w.cell? ⟨g, 9, none⟩ = some (.slice x.sp.e.1 x.sp.e.2.1 x.sp.e.2.2) ∧ w.cell? ⟨g, 10, none⟩ = some (.slice x.sp.l.1 x.sp.l.2.1 x.sp.l.2.2) ∧ w.cell? ⟨g, 11, none⟩ = some (.int .i64 x.d) ∧ w.cell? ⟨g, 12, none⟩ = some (.bool x.o) :=
  ⟨(blk_cell h 0).trans rfl, (blk_cell h 1).trans rfl, (blk_cell h 2).trans rfl, (blk_cell h 3).trans rfl, (blk_cell h 4).trans rfl, (blk_cell h 5).trans rfl, (blk_cell h 6).trans rfl, (blk_cell h 7).trans rfl, (blk_cell h 8).trans rfl, (blk_cell h 9).trans rfl, (blk_cell h 10).trans rfl, (blk_cell h 11).trans rfl, (blk_cell h 12).trans rfl⟩
theorem meas_dn (j : Nat) : (intOf (.int .i64 ((j : Int) - 1)) + 1).toNat < (intOf (.int .i64 (j : Int)) + 1).toNat := by
  show ((j : Int) - 1 + 1).toNat < ((j : Int) + 1).toNat
  omega
set_option maxHeartbeats 8000000 in
set_option maxRecDepth 100000 in
theorem below_calls {B0 N : Nat} (A : Option Addr) (c : Nat) (C : List Sp) (hC : Dis C) (hn : C.length ≤ 1000) (x0 : Ln) (hx : x0.sp ∈ C) (hd : x0.d = 0) (vo : Value) (out : List Ln) (hsum : out.length + left C out = C.length) (w : World)
    (hl : Kd.R kS 38 w B0 (fun k => k < N) (.slice A C.length c) C) (hN : N ≤ w.heap.size) (ho : Kd.R kL 40 w N (fun _ => True) vo out) :
    Calls Try.prog 24 #[.slice A C.length c, vo, .agg (encL x0).toArray] w fun e w' => ∃ v, e = .returned v ∧ Kd.R kL 40 w' N (fun _ => True) v (tell C x0.sp x0.d x0.o out) ∧ Below N w w' := by
  have HC := Lib.hid hC
  have HCN := Lib.hid hn
  have HBS := Lib.hid (Bs.start hx hd hsum)
  obtain ⟨res, hres⟩ : ∃ res, tell C x0.sp x0.d x0.o out = res := ⟨_, rfl⟩
  rw [hres] at HBS ⊢
  have HLR := Lib.hid hl
  have HNS := Lib.hid hN
  obtain ⟨Av, cv, rfl⟩ := Kd.R_slice ho
  have hz := below_alloc (Below.refl w.heap.size w) (.cells (encL x0).toArray 40)
  have HR1 := Lib.hid (Kd.R_below ho hz)
  have HB1 := Lib.hid (show Below N w (w.alloc (.cells (encL x0).toArray 40)) from ⟨hz.os, hz.tape, hz.output, hz.size, fun k hk => hz.block k (by omega)⟩)
  have HZ1 := Lib.hid (show N ≤ (w.alloc (.cells (encL x0).toArray 40)).heap.size from Nat.le_trans hN hz.size)
  have KX := Lib.hid (heap_alloc_new w (.cells (encL x0).toArray 40))
  have HCC := Lib.hid (show C.length * C.length ≤ 1000000 from Nat.le_trans (Nat.mul_le_mul hn hn) (by decide))
  obtain ⟨inf, hinf, _⟩ : ∃ inf, Try.prog.info? 40 = some inf ∧ inf.size = 13 := by
    obtain ⟨inf, h1, h2⟩ := Option.map_eq_some_iff.1 infoL
    simp only [Prod.mk.injEq] at h2
    exact ⟨inf, h1, h2.2.1⟩
  have HINF := Lib.hid hinf
  clear hinf hC hn hx hd hsum hres hl hN ho hz
  rw [arr_L] at HR1 HB1 HZ1 KX ⊢
  go_enter Try.func24, Try.ntmps24
  go_upto_region 1 with (fail)
  generalize (w.alloc (.cells #[.int .u64 x0.sp.tr, .int .u64 x0.sp.id, .int .u64 x0.sp.par, .string x0.sp.svc, .string x0.sp.op, .int .i64 x0.sp.st, .int .i64 x0.sp.du, .int .i64 x0.sp.stt, .slice x0.sp.a.1 x0.sp.a.2.1 x0.sp.a.2.2, .slice x0.sp.e.1 x0.sp.e.2.1 x0.sp.e.2.2, .slice x0.sp.l.1 x0.sp.l.2.1 x0.sp.l.2.2, .int .i64 x0.d, .bool x0.o] 40)) = w1 at HR1 HB1 HZ1 KX ⊢
  generalize (Value.agg #[.int .u64 x0.sp.tr, .int .u64 x0.sp.id, .int .u64 x0.sp.par, .string x0.sp.svc, .string x0.sp.op, .int .i64 x0.sp.st, .int .i64 x0.sp.du, .int .i64 x0.sp.stt, .slice x0.sp.a.1 x0.sp.a.2.1 x0.sp.a.2.2, .slice x0.sp.e.1 x0.sp.e.2.1 x0.sp.e.2.2, .slice x0.sp.l.1 x0.sp.l.2.1 x0.sp.l.2.2, .int .i64 x0.d, .bool x0.o]) = junk1
  obtain ⟨a0, a1, a2, a3, a4, a5, a6, a7, a8, a9, a10, a11, a12⟩ := blkL (x := x0) KX.out
  go_wp2_with (first
    | ((with_reducible refine gate_dst (N := 11) rfl ?_); refine Kd.R_lit kL (w0 := w1) N 40 ?hg (N := 11) ?hd (xs := [x0]) (inner := encL x0) (ok := fun _ => True) (okp := fun _ => True) ?hr ?hp (fun _ hk => hk) trivial (Below.refl _ _) HZ1.out (by simp) ?_; (case hd => rfl); (case hg => rfl); (case hr => first | (go_simp; done) | (go_simp; rfl)); (case hp => exact reps_L _ _ _ _); intro v2 w2 ho hb hg_ hnew_; obtain ⟨A2, c2, rfl⟩ := Kd.R_slice ho; rw [show [x0].length = 1 from rfl] at ho hnew_ ⊢; have HW2 := Lib.hid (show Bw w w2 N (.slice A2 1 c2) (.slice Av out.length cv) [x0] out from ⟨HB1.out.trans hb, HNS.out, ho, row_keepL HR1.out hg_ (fun k hk e => by cases e), fun k hk e => by obtain ⟨bn, hbn, hbn2⟩ := hnew_; have h3 := (row_ltL HR1.out k e).2; rw [hbn] at hk; injection hk with hk; omega⟩); clear ho hb hg_ hnew_))
  clear HR1 HB1 HZ1 KX a0 a1 a2 a3 a4 a5 a6 a7 a8 a9 a10 a11 a12
  go_loopw [1, 7, 8, 9] (fun v1 v7 _ _ wr => ∃ (Ao : Option Addr) (co : Nat) (As : Option Addr) (cs : Nat) (st out : List Ln), v1 = .slice Ao out.length co ∧ v7 = .slice As st.length cs ∧ Hid (Bs C res st out) ∧ Hid (Bw w wr N (.slice As st.length cs) (.slice Ao out.length co) st out)) (fun v1 v7 _ _ _ => (C.length + 1) * (C.length - slLen v1) + slLen v7)
  case atStart => exact ⟨Av, cv, A2, c2, [x0], out, rfl, rfl, HBS, HW2⟩
  case round =>
    clear HBS HW2
    obtain ⟨Ao, co, As, cs, st, out, rfl, rfl, HBS, HW⟩ := hrel
    rcases List.eq_nil_or_concat st with rfl | ⟨st, x, rfl⟩
    · go_wp2
      go_ret
      exact ⟨_, rfl, by rw [HBS.out.done]; exact HW.out.ro, HW.out.bw⟩
    · rw [List.concat_eq_append] at HBS HW
      obtain ⟨m, hm⟩ : ∃ m, st.length + 1 = m := ⟨_, rfl⟩
      have hlen : (st ++ [x]).length = m := by simp [hm]
      rw [List.concat_eq_append, hlen]
      rw [hlen] at HW
      have HM := Lib.hid hm
      have HML := Lib.hid hlen
      have HMB := Lib.hid (show m ≤ 1000001 by have h1 := HBS.out.meas0.2; have := HCC.out; rw [hlen] at h1; omega)
      have HOB := Lib.hid (show out.length ≤ 1000 by have h1 := HBS.out.meas0.1; have := HCN.out; omega)
      obtain ⟨hxm, hxd0, hxd1⟩ := HBS.out.mem x (by simp)
      have HXM := Lib.hid hxm
      have HWD := Lib.hid (show wrap64 (x.d + 1) = x.d + 1 by have := HOB.out; unfold wrap64; omega)
      have hwm : wrap64 ((m : Int) - 1) = (st.length : Int) := by have := HMB.out; unfold wrap64; omega
      have q : (0 : Int) < (m : Int) := by omega
      have q2 : (st.length : Int) < (m : Int) := by omega
      obtain ⟨ast, rfl, y0, y1, y2, y3, y4, y5, y6, y7, y8, y9, y10, y11, y12⟩ := at_L (x := x) (k := st.length) (Kd.R_reads' HW.out.rs).2.2 (by simp)
      have hsc := (Kd.R_reads' HW.out.rs).2.1
      have kc := cut_to (P := Try.prog) 26 40 .i64 Try.underlying26 HINF.out (some ast) m cs (st.length : Int) (by omega) (by omega) hsc
      rw [Int.toNat_natCast] at kc
      have HX := Lib.hid (Bx.of (HW.out.pop hm) x)
      rw [arr_L] at HX
      clear hm hlen hxm hxd0 hxd1 hsc HW
      go_upto_region 4 with (fail)
      clear y0 y1 y2 y3 y4 y5 y6 y7 y8 y9 y10 y11 y12 q q2 hwm
      generalize (wr.alloc (.cells #[.int .u64 x.sp.tr, .int .u64 x.sp.id, .int .u64 x.sp.par, .string x.sp.svc, .string x.sp.op, .int .i64 x.sp.st, .int .i64 x.sp.du, .int .i64 x.sp.stt, .slice x.sp.a.1 x.sp.a.2.1 x.sp.a.2.2, .slice x.sp.e.1 x.sp.e.2.1 x.sp.e.2.2, .slice x.sp.l.1 x.sp.l.2.1 x.sp.l.2.2, .int .i64 x.d, .bool x.o] 40)) = w3 at HX ⊢
      generalize (Value.agg #[.int .u64 x.sp.tr, .int .u64 x.sp.id, .int .u64 x.sp.par, .string x.sp.svc, .string x.sp.op, .int .i64 x.sp.st, .int .i64 x.sp.du, .int .i64 x.sp.stt, .slice x.sp.a.1 x.sp.a.2.1 x.sp.a.2.2, .slice x.sp.e.1 x.sp.e.2.1 x.sp.e.2.2, .slice x.sp.l.1 x.sp.l.2.1 x.sp.l.2.2, .int .i64 x.d, .bool x.o]) = junk2
      generalize wr.heap.size = b at HX ⊢
      have hwm : wrap64 ((m : Int) - 1) = (st.length : Int) := by have h1 := HMB.out; have h2 := HM.out; unfold wrap64; omega
      have y1 : w3.cell? ⟨b, 1, none⟩ = some (.int .u64 x.sp.id) := (blk_cell HX.out.blk 1).trans rfl
      have htc := told_calls Ao co out x.sp.id w3 (Kd.R_reads' HX.out.bw.ro).2.2 (by have := HOB.out; omega)
      have HTC := Lib.hid htc
      clear htc
      go_wp2_with fail
      refine HTC.out.mono ?_
      rintro e w4 ⟨rfl, rfl⟩
      clear HTC kc hwm y1
      cases ht : toldId out x.sp.id with
      | true =>
        have HT := Lib.hid (HBS.out.told HC.out ht)
        clear ht
        go_wp2
        go_roundw
        case rel => exact ⟨Ao, co, some ast, cs, st, out, rfl, rfl, HT, Lib.hid HX.out.bw⟩
        case measure => exact meas_told HM.out
      | false =>
        have HT := Lib.hid ht
        have HON := Lib.hid (HBS.out.one HC.out ht).2
        clear ht
        obtain ⟨y0, y1, y2, y3, y4, y5, y6, y7, y8, y9, y10, y11, y12⟩ := blkL (x := x) HX.out.blk
        have HZ3 := Lib.hid HX.out.bw.size
        have HOL := Lib.hid (show out.length + 1 ≤ C.length by have h1 := HON.out; have h2 := HBS.out.sum; omega)
        go_upto_region 7 with (first
          | ((with_reducible refine gate_dst (N := 33) rfl ?_); refine Kd.R_lit kL (w0 := w3) N 40 ?hg (N := 33) ?hd (xs := [x]) (inner := encL x) (ok := fun _ => True) (okp := fun _ => True) ?hr ?hp (fun _ hk => hk) trivial (Below.refl _ _) HZ3.out (by simp) ?_; (case hd => rfl); (case hg => rfl); (case hr => first | (go_simp; done) | (go_simp; rfl)); (case hp => exact reps_L _ _ _ _); intro v5 w5 ho hb hg_ hnew_; obtain ⟨A5, c5, rfl⟩ := Kd.R_slice ho; rw [show [x].length = 1 from rfl] at ho ⊢; have HO5 := Lib.hid (Kd.R_reads' ho).2.2; have HX5 := Lib.hid (HX.out.grown0 hg_); clear ho hb hg_ hnew_)
          | ((with_reducible refine gate_builtin (b := .append) (xs := #[.tmp 31, .tmp 33]) rfl ?_); at_builtin; refine Kd.R_append_rows kL (w0 := w5) N rfl (.tmp 31) (.tmp 33) 26 40 (.agg #[(.int .u64 0), (.int .u64 0), (.int .u64 0), (.string ⟨#[]⟩), (.string ⟨#[]⟩), (.int .i64 0), (.int .i64 0), (.int .i64 0), (.slice none 0 0), (.slice none 0 0), (.slice none 0 0), (.int .i64 0), (.bool false)]) 168 rfl Try.underlying26 infoL rfl (by decide) (by omega) (.slice Ao out.length co) out [x] A5 _ c5 (fun _ => True) (fun _ => False) rfl rfl HX5.out.bw.ro HO5.out (fun x_ cs_ h_ => h_) (fun _ h => h.elim) (fun _ _ => trivial) (Below.refl _ _) HX5.out.bw.size (by have := HOB.out; simp; omega) ?_; intro v6 w7 ho hb hg_ hnew_; obtain ⟨A6, c6, rfl⟩ := Kd.R_slice ho; have HX7 := Lib.hid (HX5.out.out hb hg_ ho hnew_); clear ho hb hg_ hnew_))
        clear HX HO5 HX5 HZ3 y0 y1 y2 y3 y4 y5 y6 y7 y8 y9 y10 y11 y12
        generalize (Value.agg #[.int .u64 x.sp.tr, .int .u64 x.sp.id, .int .u64 x.sp.par, .string x.sp.svc, .string x.sp.op, .int .i64 x.sp.st, .int .i64 x.sp.du, .int .i64 x.sp.stt, .slice x.sp.a.1 x.sp.a.2.1 x.sp.a.2.2, .slice x.sp.e.1 x.sp.e.2.1 x.sp.e.2.2, .slice x.sp.l.1 x.sp.l.2.1 x.sp.l.2.2, .int .i64 x.d, .bool x.o]) = junk3
        go_cut [9] from 35 to 37 (fun v9 wq => v9 = .int .i64 ((C.length : Int) - 1) ∧ w7 = wq)
        case first =>
          have hwc : wrap64 ((C.length : Int) - 1) = (C.length : Int) - 1 := by have := HCN.out; unfold wrap64; omega
          have HWC := Lib.hid hwc
          clear hwc
          go_wp2
          go_meet
          case rel => exact ⟨by rw [HWC.out], rfl⟩
        case rest =>
        obtain ⟨rfl, rfl⟩ := hcut
        apply_assumption
        refine wp_block ?_
        go_loopw [7, 9] (fun v7 i wr => ∃ (As : Option Addr) (cs j : Nat), j ≤ C.length ∧ v7 = .slice As (st ++ pushS (C.drop j) x.sp.id x.d).length cs ∧ i = .int .i64 ((j : Int) - 1) ∧ Hid (x.sp.id = 0 → j = C.length) ∧ Hid (Bx w wr N (.slice As (st ++ pushS (C.drop j) x.sp.id x.d).length cs) (.slice A6 (out ++ [x]).length c6) (st ++ pushS (C.drop j) x.sp.id x.d) (out ++ [x]) b x)) (fun _ i _ => (intOf i + 1).toNat)
        case atStart => exact ⟨some ast, cs, C.length, Nat.le_refl _, by rw [pushS_end (Nat.le_refl _), List.append_nil], rfl, Lib.hid (fun _ => rfl), by rw [pushS_end (Nat.le_refl _), List.append_nil]; exact HX7⟩
        case round =>
          clear HX7
          obtain ⟨As, cs, j, hj, rfl, rfl, HJ0, HX⟩ := hrel
          have HSL := Lib.hid (show (st ++ pushS (C.drop j) x.sp.id x.d).length ≤ st.length + C.length by rw [List.length_append]; have := pushS_len C j x.sp.id x.d; omega)
          rcases j with _ | j
          · have qj : decide ((0 : Int) ≤ -1) = false := by decide
            rw [show (((0 : Nat) : Int) - 1) = -1 from rfl]
            clear hj
            have HE := Lib.hid (HBS.out.end_ HC.out HT.out HJ0.out (fun _ => rfl))
            have HPL := Lib.hid (pushS_len C 0 x.sp.id x.d)
            go_wp2
            go_roundw
            case rel => exact ⟨A6, c6, As, cs, _, out ++ [x], by rw [List.length_append, List.length_singleton], rfl, HE, Lib.hid HX.out.bw⟩
            case measure => (show (C.length + 1) * (C.length - (out.length + 1)) + (st ++ pushS (C.drop 0) x.sp.id x.d).length < (C.length + 1) * (C.length - out.length) + m); rw [List.length_append]; exact meas_push HOL.out HM.out HPL.out
          · rw [show ((((j + 1 : Nat)) : Int) - 1) = (j : Int) by omega]
            have HJC := Lib.hid hj
            have qj : (0 : Int) ≤ (j : Int) := by omega
            have y1 : wr.cell? ⟨b, 1, none⟩ = some (.int .u64 x.sp.id) := (blk_cell HX.out.blk 1).trans rfl
            by_cases h0 : x.sp.id = 0
            · have e1 : (x.sp.id == 0) = true := beq_iff_eq.2 h0
              have HE := Lib.hid (HBS.out.end_ HC.out HT.out HJ0.out (fun h => absurd h0 h))
              clear h0 hj
              have HPL := Lib.hid (pushS_len C (j + 1) x.sp.id x.d)
              go_wp2
              go_roundw
              case rel => exact ⟨A6, c6, As, cs, _, out ++ [x], by rw [List.length_append, List.length_singleton], rfl, HE, Lib.hid HX.out.bw⟩
              case measure => (show (C.length + 1) * (C.length - (out.length + 1)) + (st ++ pushS (C.drop (j + 1)) x.sp.id x.d).length < (C.length + 1) * (C.length - out.length) + m); rw [List.length_append]; exact meas_push HOL.out HM.out HPL.out
            · have e1 : (x.sp.id == 0) = false := beq_eq_false_iff_ne.2 h0
              have HNZ := Lib.hid h0
              clear h0 hj
              obtain ⟨s, hs⟩ : ∃ s, C[j]? = some s := ⟨_, List.getElem?_eq_getElem (by have := HJC.out; omega)⟩
              have HGS := Lib.hid hs
              have HPD := Lib.hid (pushS_drop hs x.sp.id x.d)
              obtain ⟨sk, hsk⟩ : ∃ sk, st ++ pushS (C.drop (j + 1)) x.sp.id x.d = sk := ⟨_, rfl⟩
              rw [hsk] at HX HSL ⊢
              have HSK := Lib.hid hsk
              clear hsk
              have qj2 : (j : Int) < (C.length : Int) := by have := HJC.out; omega
              have hlr := (Kd.R_reads' (R_range HLR.out (fun k _ hk => HX.out.bw.bw.block k hk))).2.2
              obtain ⟨ad, rfl, _⟩ := at_S hlr hs
              have hwj : wrap64 ((j : Int) - 1) = (j : Int) - 1 := by have := HJC.out; have := HCN.out; unfold wrap64; omega
              have HWJ := Lib.hid hwj
              have HXd := Lib.hid (HX.out.next (below_drew (Below.refl _ _)))
              obtain ⟨ad2, he2, _, _, u2, _⟩ := at_S (Kd.R_reads' (R_range HLR.out (fun k _ hk => HXd.out.bw.bw.block k hk))).2.2 HGS.out
              injection he2 with he2
              subst he2
              have z1 : wr.drew.cell? ⟨b, 1, none⟩ = some (.int .u64 x.sp.id) := (blk_cell HXd.out.blk 1).trans rfl
              clear hs hlr hwj
              go_upto_region 10 with (fail)
              refine start_ (n := 9) (S := fun w' => w'.cell? ⟨(ad.add (j * 11)).block, (ad.add (j * 11)).off + 2, none⟩ = some (.int .u64 s.par) ∧ w'.cell? ⟨b, 1, none⟩ = some (.int .u64 x.sp.id)) (ds := []) #[false, false, false, false, false, false, false, false, false] (by kernel_rfl) rfl rfl ⟨u2, z1⟩ (fun hHeld => ?_)
              generalize hwe : wr.drew = w8 at u2 z1 HXd hHeld ⊢
              clear hwe u2 z1 y1
              refine pure_ (i := 0) (N := some 48) (v := ?_) (a' := ?_) #[true, false, false, false, false, false, false, false, false] rfl rfl (by kernel_rfl) (fun _ _ _ h => h) (Or.inl ⟨by rfl, ?_⟩) ?_ ?_
              rotate_left
              · intro w'
                go_simp
                with_reducible rfl
              rotate_left
              · simp only [Act.put, List.setIfInBounds_toArray, List.set_cons_zero, List.set_cons_succ, i64_w, i32_w]
                rfl
              refine pure_ (i := 1) (N := some 49) (v := ?_) (a' := ?_) #[true, true, false, false, false, false, false, false, false] rfl rfl (by kernel_rfl) (fun _ _ _ h => h) (Or.inl ⟨by rfl, ?_⟩) ?_ ?_
              rotate_left
              · intro w'
                go_simp
                with_reducible rfl
              rotate_left
              · simp only [Act.put, List.setIfInBounds_toArray, List.set_cons_zero, List.set_cons_succ, i64_w, i32_w]
                rfl
              refine pure_ (i := 2) (N := some 50) (v := ?_) (a' := ?_) #[true, true, true, false, false, false, false, false, false] rfl rfl (by kernel_rfl) (fun _ _ _ h => h) (Or.inl ⟨by rfl, ?_⟩) ?_ ?_
              rotate_left
              · intro w'
                go_simp
                with_reducible rfl
              rotate_left
              · simp only [Act.put, List.setIfInBounds_toArray, List.set_cons_zero, List.set_cons_succ, i64_w, i32_w]
                rfl
              refine pure_ (i := 3) (N := some 51) (v := ?_) (a' := ?_) #[true, true, true, true, false, false, false, false, false] rfl rfl (by kernel_rfl) (fun _ _ _ h => h) (Or.inl ⟨by rfl, ?_⟩) ?_ ?_
              rotate_left
              · intro w'
                go_simp
                with_reducible rfl
              rotate_left
              · simp only [Act.put, List.setIfInBounds_toArray, List.set_cons_zero, List.set_cons_succ, i64_w, i32_w]
                rfl
              refine pure_ (i := 5) (N := some 53) (v := ?_) (a' := ?_) #[true, true, true, true, false, true, false, false, false] rfl rfl (by kernel_rfl) (fun _ _ _ h => h) (Or.inl ⟨by rfl, ?_⟩) ?_ ?_
              rotate_left
              · intro w'
                go_simp
                with_reducible rfl
              rotate_left
              · simp only [Act.put, List.setIfInBounds_toArray, List.set_cons_zero, List.set_cons_succ, i64_w, i32_w]
                rfl
              refine pure_ (i := 6) (N := some 54) (v := ?_) (a' := ?_) #[true, true, true, true, false, true, true, false, false] rfl rfl (by kernel_rfl) (fun _ _ _ h => h) (Or.inl ⟨by rfl, ?_⟩) ?_ ?_
              rotate_left
              · intro w'
                go_simp
                with_reducible rfl
              rotate_left
              · simp only [Act.put, List.setIfInBounds_toArray, List.set_cons_zero, List.set_cons_succ, i64_w, i32_w]
                rfl
              refine take_ (i := 4) (N := some 52) (v := ?_) (a' := ?_) #[true, true, true, true, true, true, true, false, false] rfl rfl (by kernel_rfl) (fun _ _ _ h => h) (Or.inl ⟨by rfl, ?_⟩) hHeld ?_ ?_
              rotate_left
              · rintro w' ⟨s0, s1⟩
                go_simp
                with_reducible rfl
              rotate_left
              · simp only [Act.put, List.setIfInBounds_toArray, List.set_cons_zero, List.set_cons_succ, i64_w, i32_w]
                rfl
              refine take_ (i := 7) (N := some 55) (v := ?_) (a' := ?_) #[true, true, true, true, true, true, true, true, false] rfl rfl (by kernel_rfl) (fun _ _ _ h => h) (Or.inl ⟨by rfl, ?_⟩) hHeld ?_ ?_
              rotate_left
              · rintro w' ⟨s0, s1⟩
                go_simp
                with_reducible rfl
              rotate_left
              · simp only [Act.put, List.setIfInBounds_toArray, List.set_cons_zero, List.set_cons_succ, i64_w, i32_w]
                rfl
              refine pure_ (i := 8) (N := some 56) (v := ?_) (a' := ?_) #[true, true, true, true, true, true, true, true, true] rfl rfl (by kernel_rfl) (fun _ _ _ h => h) (Or.inl ⟨by rfl, ?_⟩) ?_ ?_
              rotate_left
              · intro w'
                go_simp
                with_reducible rfl
              rotate_left
              · simp only [Act.put, List.setIfInBounds_toArray, List.set_cons_zero, List.set_cons_succ, i64_w, i32_w]
                rfl
              refine done_ (by kernel_rfl) ?_
              clear HX
              by_cases hp : s.par = x.sp.id
              · have e2 : (s.par == x.sp.id) = true := beq_iff_eq.2 hp
                have HPE := Lib.hid (show pushS (C.drop j) x.sp.id x.d = pushS (C.drop (j + 1)) x.sp.id x.d ++ [⟨s, x.d + 1, false⟩] by rw [HPD.out, if_pos hp])
                have HXf := Lib.hid (HXd.out.next (below_drew (Below.refl _ _)))
                obtain ⟨ad2, he2, g0, g1, g2, g3, g4, g5, g6, g7, g8, g9, g10⟩ := at_S (Kd.R_reads' (R_range HLR.out (fun k _ hk => HXf.out.bw.bw.block k hk))).2.2 HGS.out
                injection he2 with he2
                subst he2
                have z11 : w8.drew.cell? ⟨b, 11, none⟩ = some (.int .i64 x.d) := (blk_cell HXf.out.blk 11).trans rfl
                have hwd := HWD.out
                clear hp
                go_upto_region 11 with (fail)
                refine start_ (n := 12) (S := fun w' => w'.cell? (ad.add (j * 11)) = some (.int .u64 s.tr) ∧ w'.cell? ⟨(ad.add (j * 11)).block, (ad.add (j * 11)).off + 1, none⟩ = some (.int .u64 s.id) ∧ w'.cell? ⟨(ad.add (j * 11)).block, (ad.add (j * 11)).off + 2, none⟩ = some (.int .u64 s.par) ∧ w'.cell? ⟨(ad.add (j * 11)).block, (ad.add (j * 11)).off + 3, none⟩ = some (.string s.svc) ∧ w'.cell? ⟨(ad.add (j * 11)).block, (ad.add (j * 11)).off + 4, none⟩ = some (.string s.op) ∧ w'.cell? ⟨(ad.add (j * 11)).block, (ad.add (j * 11)).off + 5, none⟩ = some (.int .i64 s.st) ∧ w'.cell? ⟨(ad.add (j * 11)).block, (ad.add (j * 11)).off + 6, none⟩ = some (.int .i64 s.du) ∧ w'.cell? ⟨(ad.add (j * 11)).block, (ad.add (j * 11)).off + 7, none⟩ = some (.int .i64 s.stt) ∧ w'.cell? ⟨(ad.add (j * 11)).block, (ad.add (j * 11)).off + 8, none⟩ = some (.slice s.a.1 s.a.2.1 s.a.2.2) ∧ w'.cell? ⟨(ad.add (j * 11)).block, (ad.add (j * 11)).off + 9, none⟩ = some (.slice s.e.1 s.e.2.1 s.e.2.2) ∧ w'.cell? ⟨(ad.add (j * 11)).block, (ad.add (j * 11)).off + 10, none⟩ = some (.slice s.l.1 s.l.2.1 s.l.2.2) ∧ w'.cell? ⟨b, 11, none⟩ = some (.int .i64 x.d)) (ds := []) #[false, false, false, false, false, false, false, false, false, false, false, false] (by kernel_rfl) rfl rfl ⟨g0, g1, g2, g3, g4, g5, g6, g7, g8, g9, g10, z11⟩ (fun hHeld => ?_)
                generalize hwe : w8.drew = w9 at g0 g1 g2 g3 g4 g5 g6 g7 g8 g9 g10 z11 HXf hHeld ⊢
                clear hwe g0 g1 g2 g3 g4 g5 g6 g7 g8 g9 g10 z11
                refine pure_ (i := 0) (N := some 57) (v := ?_) (a' := ?_) #[true, false, false, false, false, false, false, false, false, false, false, false] rfl rfl (by kernel_rfl) (fun _ _ _ h => h) (Or.inl ⟨by rfl, ?_⟩) ?_ ?_
                rotate_left
                · intro w'
                  go_simp
                  with_reducible rfl
                rotate_left
                · simp only [Act.put, List.setIfInBounds_toArray, List.set_cons_zero, List.set_cons_succ, i64_w, i32_w]
                  rfl
                refine pure_ (i := 1) (N := some 58) (v := ?_) (a' := ?_) #[true, true, false, false, false, false, false, false, false, false, false, false] rfl rfl (by kernel_rfl) (fun _ _ _ h => h) (Or.inl ⟨by rfl, ?_⟩) ?_ ?_
                rotate_left
                · intro w'
                  go_simp
                  with_reducible rfl
                rotate_left
                · simp only [Act.put, List.setIfInBounds_toArray, List.set_cons_zero, List.set_cons_succ, i64_w, i32_w]
                  rfl
                refine pure_ (i := 2) (N := some 59) (v := ?_) (a' := ?_) #[true, true, true, false, false, false, false, false, false, false, false, false] rfl rfl (by kernel_rfl) (fun _ _ _ h => h) (Or.inl ⟨by rfl, ?_⟩) ?_ ?_
                rotate_left
                · intro w'
                  go_simp
                  with_reducible rfl
                rotate_left
                · simp only [Act.put, List.setIfInBounds_toArray, List.set_cons_zero, List.set_cons_succ, i64_w, i32_w]
                  rfl
                refine pure_ (i := 3) (N := some 60) (v := ?_) (a' := ?_) #[true, true, true, true, false, false, false, false, false, false, false, false] rfl rfl (by kernel_rfl) (fun _ _ _ h => h) (Or.inl ⟨by rfl, ?_⟩) ?_ ?_
                rotate_left
                · intro w'
                  go_simp
                  with_reducible rfl
                rotate_left
                · simp only [Act.put, List.setIfInBounds_toArray, List.set_cons_zero, List.set_cons_succ, i64_w, i32_w]
                  rfl
                refine pure_ (i := 5) (N := some 62) (v := ?_) (a' := ?_) #[true, true, true, true, false, true, false, false, false, false, false, false] rfl rfl (by kernel_rfl) (fun _ _ _ h => h) (Or.inl ⟨by rfl, ?_⟩) ?_ ?_
                rotate_left
                · intro w'
                  go_simp
                  with_reducible rfl
                rotate_left
                · simp only [Act.put, List.setIfInBounds_toArray, List.set_cons_zero, List.set_cons_succ, i64_w, i32_w]
                  rfl
                refine take_ (i := 4) (N := some 61) (v := ?_) (a' := ?_) #[true, true, true, true, true, true, false, false, false, false, false, false] rfl rfl (by kernel_rfl) (fun _ _ _ h => h) (Or.inl ⟨by rfl, ?_⟩) hHeld ?_ ?_
                rotate_left
                · rintro w' ⟨s0, s1, s2, s3, s4, s5, s6, s7, s8, s9, s10, s11⟩
                  go_simp
                  with_reducible rfl
                rotate_left
                · simp only [Act.put, List.setIfInBounds_toArray, List.set_cons_zero, List.set_cons_succ, i64_w, i32_w]
                  rfl
                refine take_ (i := 6) (N := some 63) (v := ?_) (a' := ?_) #[true, true, true, true, true, true, true, false, false, false, false, false] rfl rfl (by kernel_rfl) (fun _ _ _ h => h) (Or.inl ⟨by rfl, ?_⟩) hHeld ?_ ?_
                rotate_left
                · rintro w' ⟨s0, s1, s2, s3, s4, s5, s6, s7, s8, s9, s10, s11⟩
                  go_simp
                  with_reducible rfl
                rotate_left
                · simp only [Act.put, List.setIfInBounds_toArray, List.set_cons_zero, List.set_cons_succ, i64_w, i32_w]
                  rfl
                refine pure_ (i := 7) (N := some 64) (v := ?_) (a' := ?_) #[true, true, true, true, true, true, true, true, false, false, false, false] rfl rfl (by kernel_rfl) (fun _ _ _ h => h) (Or.inl ⟨by rfl, ?_⟩) ?_ ?_
                rotate_left
                · intro w'
                  go_simp
                  with_reducible rfl
                rotate_left
                · simp only [Act.put, List.setIfInBounds_toArray, List.set_cons_zero, List.set_cons_succ, i64_w, i32_w]
                  rfl
                refine pure_ (i := 8) (N := some 65) (v := ?_) (a' := ?_) #[true, true, true, true, true, true, true, true, true, false, false, false] rfl rfl (by kernel_rfl) (fun _ _ _ h => h) (Or.inl ⟨by rfl, ?_⟩) ?_ ?_
                rotate_left
                · intro w'
                  go_simp
                  with_reducible rfl
                rotate_left
                · simp only [Act.put, List.setIfInBounds_toArray, List.set_cons_zero, List.set_cons_succ, i64_w, i32_w]
                  rfl
                refine one_ (i := 9) (N := some 66) #[true, true, true, true, true, true, true, true, true, true, false, false] rfl rfl (by kernel_rfl) (by decide) (fun K hK => ?_)
                refine Kd.R_lit_step kL (w0 := w9) N 40 ?hg (N := 66) ?hd (xs := [(⟨s, x.d + 1, false⟩ : Ln)]) (inner := encL ⟨s, x.d + 1, false⟩) (ok := fun _ => True) (okp := fun _ => True) ?hr ?hp (fun _ hk => hk) trivial (Below.refl _ _) HXf.out.bw.size (by simp) ?_; (case hd => rfl); (case hg => rfl); (case hr => first | (go_simp; done) | (go_simp; rfl)); (case hp => exact reps_L _ _ _ _)
                intro v10 w10 ho hb hg_ hnew_
                obtain ⟨A10, c10, rfl⟩ := Kd.R_slice ho
                rw [show [(⟨s, x.d + 1, false⟩ : Ln)].length = 1 from rfl] at ho ⊢
                have HO10 := Lib.hid (Kd.R_reads' ho).2.2
                have HX10 := Lib.hid (HXf.out.grown0 hg_)
                clear ho hb hg_ hnew_
                obtain ⟨ad2, he2, g0, g1, g2, g3, g4, g5, g6, g7, g8, g9, g10⟩ := at_S (Kd.R_reads' (R_range HLR.out (fun k _ hk => HX10.out.bw.bw.block k hk))).2.2 HGS.out
                injection he2 with he2
                subst he2
                have z11 : w10.cell? ⟨b, 11, none⟩ = some (.int .i64 x.d) := (blk_cell HX10.out.blk 11).trans rfl
                refine hK.out _ _ ⟨g0, g1, g2, g3, g4, g5, g6, g7, g8, g9, g10, z11⟩ (fun hHeld => ?_)
                clear hK K
                refine norm_ (a' := ?_) ?_ ?_
                rotate_left
                · show Act.put _ (some 66) _ = _
                  simp only [Act.put, List.setIfInBounds_toArray, List.set_cons_zero, List.set_cons_succ, i64_w, i32_w]
                  rfl
                refine one_ (i := 10) (N := some 67) #[true, true, true, true, true, true, true, true, true, true, true, false] rfl rfl (by kernel_rfl) (by decide) (fun K hK => ?_)
                refine Kd.R_append_rows_step kL (w0 := w10) N (by rfl) (.tmp 57) (.tmp 66) 26 40 (.agg #[(.int .u64 0), (.int .u64 0), (.int .u64 0), (.string ⟨#[]⟩), (.string ⟨#[]⟩), (.int .i64 0), (.int .i64 0), (.int .i64 0), (.slice none 0 0), (.slice none 0 0), (.slice none 0 0), (.int .i64 0), (.bool false)]) 168 (by rfl) Try.underlying26 infoL rfl (by decide) (by omega) (.slice As sk.length cs) sk [(⟨s, x.d + 1, false⟩ : Ln)] A10 1 c10 (fun _ => True) (fun _ => False) (by rfl) (by rfl) HX10.out.bw.rs HO10.out (fun x_ cs_ h_ => h_) (fun _ h => h.elim) (fun _ _ => trivial) (Below.refl _ _) HX10.out.bw.size (by have h1 := HSL.out; have h2 := HMB.out; have h3 := HM.out; have h4 := HCN.out; have h5 : [(⟨s, x.d + 1, false⟩ : Ln)].length = 1 := rfl; omega) ?_
                intro v11 w11 ho hb hg_ hnew_
                obtain ⟨A11, c11, rfl⟩ := Kd.R_slice ho
                have HX11 := Lib.hid (HX10.out.stk hb hg_ ho hnew_)
                clear ho hb hg_ hnew_
                obtain ⟨ad2, he2, g0, g1, g2, g3, g4, g5, g6, g7, g8, g9, g10⟩ := at_S (Kd.R_reads' (R_range HLR.out (fun k _ hk => HX11.out.bw.bw.block k hk))).2.2 HGS.out
                injection he2 with he2
                subst he2
                have z11 : w11.cell? ⟨b, 11, none⟩ = some (.int .i64 x.d) := (blk_cell HX11.out.blk 11).trans rfl
                refine hK.out _ _ ⟨g0, g1, g2, g3, g4, g5, g6, g7, g8, g9, g10, z11⟩ (fun hHeld => ?_)
                clear hK K
                refine norm_ (a' := ?_) ?_ ?_
                rotate_left
                · show Act.put _ (some 67) _ = _
                  simp only [Act.put, List.setIfInBounds_toArray, List.set_cons_zero, List.set_cons_succ, i64_w, i32_w]
                  rfl
                refine pure_ (i := 11) (N := some 7) (v := ?_) (a' := ?_) #[true, true, true, true, true, true, true, true, true, true, true, true] rfl rfl (by kernel_rfl) (fun _ _ _ h => h) (Or.inl ⟨by rfl, ?_⟩) ?_ ?_
                rotate_left
                · intro w'
                  go_simp
                  with_reducible rfl
                rotate_left
                · simp only [Act.put, List.setIfInBounds_toArray, List.set_cons_zero, List.set_cons_succ, i64_w, i32_w]
                  rfl
                refine done_ (by kernel_rfl) ?_
                have HE2 := Lib.hid (show sk ++ [⟨s, x.d + 1, false⟩] = st ++ pushS (C.drop j) x.sp.id x.d by rw [HPE.out, ← HSK.out, List.append_assoc])
                clear hwd g0 g1 g2 g3 g4 g5 g6 g7 g8 g9 g10 z11
                go_wp2
                go_roundw
                case rel => exact ⟨A11, c11, j, by have := HJC.out; omega, by rw [← HE2.out, List.length_append]; rfl, by rw [HWJ.out], Lib.hid (fun h => absurd h HNZ.out), by rw [← HE2.out]; exact HX11⟩
                case measure => rw [HWJ.out]; exact meas_dn j
              · have e2 : (s.par == x.sp.id) = false := beq_eq_false_iff_ne.2 hp
                have HPE := Lib.hid (show sk = st ++ pushS (C.drop j) x.sp.id x.d by rw [HPD.out, if_neg hp, HSK.out])
                clear hp
                go_wp2
                go_roundw
                case rel => exact ⟨As, cs, j, by have := HJC.out; omega, by rw [← HPE.out], by rw [HWJ.out], Lib.hid (fun h => absurd h HNZ.out), by rw [← HPE.out]; exact HXd⟩
                case measure => rw [HWJ.out]; exact meas_dn j
end Go.Proofs.Ytoigebnhnkdbbaa.Tr
