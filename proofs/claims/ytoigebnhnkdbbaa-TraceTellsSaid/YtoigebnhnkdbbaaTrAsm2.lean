/- trace.family.root (chapter 26), by hand. -/
import Derived.Test.YtoigebnhnkdbbaaTrGather
import Derived.Laws.EntriesVeiled
namespace Go.Proofs.Ytoigebnhnkdbbaa.Tr
open Go.RowKit Go.Proofs.YtoigebnhnkdbbaaW.PrintWords Go.Proofs.YtoigebnhnkdbbaaW.PrintLast Go.Proofs.YtoigebnhnkdbbaaW.PrintMore Go.Proofs.Ytoigebnhnkdbbaa.Math Go.Proofs.Ytoigebnhnkdbbaa.PAll Go.Proofs.Ytoigebnhnkdbbaa.MapG
open Go.ChangeMaps (setBlock)
set_option linter.unusedVariables false
set_option linter.unusedSimpArgs false

theorem byId_get {U : List Sp} {i : Int} (h : hasId U i = true) : ∃ s2, byId U i = some (.agg (encS s2).toArray) := by
  have h2 := byId_isSome U i
  rw [h] at h2
  unfold byId at h2 ⊢
  cases hf : U.find? fun s_1 => s_1.id == i with
  | none => rw [hf] at h2; cases h2
  | some s2 => exact ⟨s2, rfl⟩
theorem byId_no {U : List Sp} {i : Int} (h : hasId U i = false) : byId U i = none := by
  have h2 := byId_isSome U i
  rw [h] at h2
  cases hf : byId U i with
  | none => rfl
  | some v => rw [hf] at h2; cases h2

set_option maxHeartbeats 4000000 in
set_option maxRecDepth 100000 in
theorem root_calls {lo hi g1 g2 : Nat} {U C : List Sp} {v : Value} {w : World} (hF : Fam lo hi w U C v g1 g2) (hh : hi ≤ w.heap.size) (s : Sp) :
    Calls Try.prog 23 #[.agg #[v, .map (some g1), .map (some g2)], .agg (encS s).toArray] w fun e w' => e = .returned (.tuple #[.bool (s.par == 0 || !hasId U s.par), .bool (s.par != 0 && !hasId U s.par)]) ∧ Below w.heap.size w w' := by
  obtain ⟨Av, cv, rfl⟩ := Kd.R_slice hF.row
  generalize C.length = m
  have hb := below_alloc (below_alloc (Below.refl w.heap.size w) (.cells #[.slice Av m cv, .map (some g1), .map (some g2)] 47)) (.cells (encS s).toArray 38)
  have k1 : ((w.alloc (.cells #[.slice Av m cv, .map (some g1), .map (some g2)] 47)).alloc (.cells (encS s).toArray 38)).heap[w.heap.size]? = some (.cells #[.slice Av m cv, .map (some g1), .map (some g2)] 47 (0, 0)) := block_below (heap_alloc_new w _) (below_alloc (Below.refl _ _) _)
  have k2 : ((w.alloc (.cells #[.slice Av m cv, .map (some g1), .map (some g2)] 47)).alloc (.cells (encS s).toArray 38)).heap[(w.alloc (.cells #[.slice Av m cv, .map (some g1), .map (some g2)] 47)).heap.size]? = some (.cells (encS s).toArray 38 (0, 0)) := heap_alloc_new _ _
  rw [show (w.alloc (.cells #[.slice Av m cv, .map (some g1), .map (some g2)] 47)).heap.size = w.heap.size + 1 by simp] at k2
  obtain ⟨es, clk, hm0, hmo⟩ := hF.m1
  have hm := block_below hm0 hb
  have HB := Lib.hid hb
  have K1 := Lib.hid k1
  have K2 := Lib.hid k2
  have HM := Lib.hid hm
  have HMO := Lib.hid hmo
  clear hb k1 k2 hm0 hm hmo
  obtain ⟨r1, hr1⟩ : ∃ r, (s.par == 0 || !hasId U s.par) = r := ⟨_, rfl⟩
  obtain ⟨r2, hr2⟩ : ∃ r, (s.par != 0 && !hasId U s.par) = r := ⟨_, rfl⟩
  rw [hr1, hr2]
  have HR1 := Lib.hid hr1
  have HR2 := Lib.hid hr2
  clear hr1 hr2
  rw [arr_S] at HB K1 K2 HM ⊢
  go_enter Try.func23, Try.ntmps23
  go_upto_region 1 with (fail)
  generalize ((w.alloc (.cells #[.slice Av m cv, .map (some g1), .map (some g2)] 47)).alloc (.cells #[.int .u64 s.tr, .int .u64 s.id, .int .u64 s.par, .string s.svc, .string s.op, .int .i64 s.st, .int .i64 s.du, .int .i64 s.stt, .slice s.a.1 s.a.2.1 s.a.2.2, .slice s.e.1 s.e.2.1 s.e.2.2, .slice s.l.1 s.l.2.1 s.l.2.2] 38)) = w1 at HB K1 K2 HM ⊢
  generalize (Value.agg #[.int .u64 s.tr, .int .u64 s.id, .int .u64 s.par, .string s.svc, .string s.op, .int .i64 s.st, .int .i64 s.du, .int .i64 s.stt, .slice s.a.1 s.a.2.1 s.a.2.2, .slice s.e.1 s.e.2.1 s.e.2.2, .slice s.l.1 s.l.2.1 s.l.2.2]) = junk1
  have y1 : w1.cell? ⟨w.heap.size, 1, none⟩ = some (.map (some g1)) := (blk_cell K1.out 1).trans rfl
  have y2 : w1.cell? ⟨w.heap.size + 1, 2, none⟩ = some (.int .u64 s.par) := (blk_cell K2.out 2).trans rfl
  have hlk := run_look (mkey_int .u64) Try.underlying44 Try.underlying33 _ w1 (Try.zeroValue38 w1) HM.out HMO.out s.par
  rw [byId_isSome] at hlk
  cases hh2 : hasId U s.par with
  | true =>
    obtain ⟨s2, hs2⟩ := byId_get hh2
    rw [hh2, hs2, Option.getD_some, arr_S] at hlk
    rw [hh2] at HR1 HR2
    have hz := below_alloc (Below.refl w1.heap.size w1) (.cells (encS s2).toArray 38)
    have HBz := Lib.hid (below_step HB.out hz)
    have KZ := Lib.hid (block_below K2.out hz)
    rw [arr_S] at HBz KZ
    clear hz hs2 hh2
    go_upto_region 2 with (fail)
    clear hlk y1 y2
    generalize (w1.alloc (.cells #[.int .u64 s2.tr, .int .u64 s2.id, .int .u64 s2.par, .string s2.svc, .string s2.op, .int .i64 s2.st, .int .i64 s2.du, .int .i64 s2.stt, .slice s2.a.1 s2.a.2.1 s2.a.2.2, .slice s2.e.1 s2.e.2.1 s2.e.2.2, .slice s2.l.1 s2.l.2.1 s2.l.2.2] 38)) = w2 at HBz KZ ⊢
    have y2 : w2.cell? ⟨w.heap.size + 1, 2, none⟩ = some (.int .u64 s.par) := (blk_cell KZ.out 2).trans rfl
    by_cases h0 : s.par = 0
    · have e1 : (s.par == 0) = true := beq_iff_eq.2 h0
      have e2 : (s.par != 0) = false := by simp [h0]
      rw [e1] at HR1
      rw [e2] at HR2
      clear h0
      go_wp2
      go_ret2
      exact ⟨by rw [← HR1.out, ← HR2.out]; rfl, HBz.out⟩
    · have e1 : (s.par == 0) = false := beq_eq_false_iff_ne.2 h0
      have e2 : (s.par != 0) = true := bne_iff_ne.2 h0
      rw [e1] at HR1
      rw [e2] at HR2
      clear h0
      go_wp2
      go_ret2
      exact ⟨by rw [← HR1.out, ← HR2.out]; rfl, HBz.out⟩
  | false =>
    rw [hh2, byId_no hh2, Option.getD_none] at hlk
    rw [hh2] at HR1 HR2
    have hz := below_alloc (Below.refl w1.heap.size w1) (.cells #[(.int .u64 0), (.int .u64 0), (.int .u64 0), (.string ⟨#[]⟩), (.string ⟨#[]⟩), (.int .i64 0), (.int .i64 0), (.int .i64 0), (.slice none 0 0), (.slice none 0 0), (.slice none 0 0)] 38)
    have HBz := Lib.hid (below_step HB.out hz)
    have KZ := Lib.hid (block_below K2.out hz)
    clear hz hh2
    go_upto_region 2 with (fail)
    clear hlk y1 y2
    generalize (w1.alloc (.cells #[(.int .u64 0), (.int .u64 0), (.int .u64 0), (.string ⟨#[]⟩), (.string ⟨#[]⟩), (.int .i64 0), (.int .i64 0), (.int .i64 0), (.slice none 0 0), (.slice none 0 0), (.slice none 0 0)] 38)) = w2 at HBz KZ ⊢
    have y2 : w2.cell? ⟨w.heap.size + 1, 2, none⟩ = some (.int .u64 s.par) := (blk_cell KZ.out 2).trans rfl
    by_cases h0 : s.par = 0
    · have e1 : (s.par == 0) = true := beq_iff_eq.2 h0
      have e2 : (s.par != 0) = false := by simp [h0]
      rw [e1] at HR1
      rw [e2] at HR2
      clear h0
      go_wp2
      go_ret2
      exact ⟨by rw [← HR1.out, ← HR2.out]; rfl, HBz.out⟩
    · have e1 : (s.par == 0) = false := beq_eq_false_iff_ne.2 h0
      have e2 : (s.par != 0) = true := bne_iff_ne.2 h0
      rw [e1] at HR1
      rw [e2] at HR2
      clear h0
      go_wp2
      go_ret2
      exact ⟨by rw [← HR1.out, ← HR2.out]; rfl, HBz.out⟩

end Go.Proofs.Ytoigebnhnkdbbaa.Tr

namespace Go.Proofs.Ytoigebnhnkdbbaa.Tr
open Go.RowKit Go.Proofs.YtoigebnhnkdbbaaW.PrintWords Go.Proofs.YtoigebnhnkdbbaaW.PrintLast Go.Proofs.YtoigebnhnkdbbaaW.PrintMore Go.Proofs.Ytoigebnhnkdbbaa.Math Go.Proofs.Ytoigebnhnkdbbaa.PAll Go.Proofs.Ytoigebnhnkdbbaa.MapG
open Go.ChangeMaps (setBlock)
set_option linter.unusedVariables false
set_option linter.unusedSimpArgs false

/-- While the lines are told: n the block of the family's cell; mt: what the map tells, out: what the row holds. -/
structure As (w0 wF wr : World) (n : Nat) (C : List Sp) (v : Value) (g1 g2 : Nat) (vo : Value) (mt out : List Ln) : Prop where
  bw : Below w0.heap.size w0 wr
  n0 : w0.heap.size ≤ n
  size : n + 5 ≤ wr.heap.size
  keep : ∀ k, w0.heap.size ≤ k → k < n → wr.heap[k]? = wF.heap[k]?
  fc : wr.heap[n]? = some (.cells #[v, .map (some g1), .map (some g2)] 47 (0, 0))
  oc : wr.heap[n + 1]? = some (.cells #[vo] 26 (0, 0))
  tm : ∃ es clk f, wr.heap[n + 1 + 1]? = some (.map es clk) ∧ MOk (Value.int .u64) es clk f ∧ ∀ i, f i = if toldId mt i = true then some (.int .i64 1) else none
  tc : wr.heap[n + 1 + 1 + 1]? = some (.cells #[.map (some (n + 1 + 1))] 49 (0, 0))
  cc : wr.heap[n + 1 + 1 + 1 + 1]? = some (.cells #[.func (.func 22) #[] #[.pointer (some ⟨n + 1 + 1 + 1, 0, none⟩), .pointer (some ⟨n + 1, 0, none⟩), .pointer (some ⟨n, 0, none⟩), .pointer (some ⟨n + 1 + 1 + 1 + 1, 0, none⟩)]] 50 (0, 0))
  row : Kd.R kL 40 wr (n + 5) (fun _ => True) vo out
theorem As.step {w0 wF wr w1 : World} {n : Nat} {C : List Sp} {v : Value} {g1 g2 : Nat} {vo : Value} {mt out : List Ln} (h : As w0 wF wr n C v g1 g2 vo mt out) (hb : Below (n + 5) wr w1) (hr : Kd.R kL 40 w1 (n + 5) (fun _ => True) vo out) : As w0 wF w1 n C v g1 g2 vo mt out := by
  have hn := h.n0
  have hk : ∀ k, k < n + 5 → w1.heap[k]? = wr.heap[k]? := hb.block
  obtain ⟨es, clk, f, h1, h2⟩ := h.tm
  exact ⟨⟨hb.os.trans h.bw.os, hb.tape.trans h.bw.tape, hb.output.trans h.bw.output, Nat.le_trans h.bw.size hb.size, fun k hk2 => (hk k (by omega)).trans (h.bw.block k hk2)⟩, hn, Nat.le_trans h.size hb.size, fun k h3 h4 => (hk k (by omega)).trans (h.keep k h3 h4), (hk _ (by omega)).trans h.fc, (hk _ (by omega)).trans h.oc, ⟨es, clk, f, (hk _ (by omega)).trans h1, h2⟩, (hk _ (by omega)).trans h.tc, (hk _ (by omega)).trans h.cc, hr⟩
theorem As.next {w0 wF wr w1 : World} {n : Nat} {C : List Sp} {v : Value} {g1 g2 : Nat} {vo : Value} {mt out : List Ln} (h : As w0 wF wr n C v g1 g2 vo mt out) (hb : Below wr.heap.size wr w1) : As w0 wF w1 n C v g1 g2 vo mt out :=
  h.step ⟨hb.os, hb.tape, hb.output, hb.size, fun k hk => hb.block k (by have := h.size; omega)⟩ (Kd.R_below h.row hb)
theorem As.put {w0 wF wr : World} {n : Nat} {C : List Sp} {v : Value} {g1 g2 : Nat} {vo : Value} {mt out : List Ln} (h : As w0 wF wr n C v g1 g2 vo mt out) {s : Sp} {d : Int} {o : Bool} {es : Array MapEntry} {clk : Nat} {f : Int → Option Value} (hf : ∀ i, f i = if toldId mt i = true then some (.int .i64 1) else none) (hm : MOk (Value.int .u64) es clk (fun i => if i = s.id then some (.int .i64 1) else f i)) : As w0 wF (setBlock wr (n + 1 + 1) (.map es clk)) n C v g1 g2 vo (mt ++ [⟨s, d, o⟩]) out := by
  have hn := h.n0
  have hsz := h.size
  have hk : ∀ k, k ≠ n + 1 + 1 → (setBlock wr (n + 1 + 1) (.map es clk)).heap[k]? = wr.heap[k]? := fun k hk => by rw [heap_setBlock, if_neg (fun e => hk e.1.symm)]
  refine ⟨⟨h.bw.os, h.bw.tape, h.bw.output, by rw [size_setBlock]; exact h.bw.size, fun k hk2 => (hk k (by omega)).trans (h.bw.block k hk2)⟩, hn, by rw [size_setBlock]; exact hsz, fun k h3 h4 => (hk k (by omega)).trans (h.keep k h3 h4), (hk _ (by omega)).trans h.fc, (hk _ (by omega)).trans h.oc, ⟨es, clk, _, by rw [heap_setBlock, if_pos ⟨rfl, by omega⟩], hm, fun i => ?_⟩, (hk _ (by omega)).trans h.tc, (hk _ (by omega)).trans h.cc, R_above h.row (fun k h1 _ => hk k (by omega))⟩
  rw [toldId_snoc]
  by_cases e : i = s.id
  · rw [if_pos e, e]
    simp
  · rw [if_neg e, hf i]
    have e2 : (s.id == i) = false := beq_eq_false_iff_ne.2 (fun h => e h.symm)
    simp [e2]
theorem As.app {w0 wF wr w1 : World} {n : Nat} {C : List Sp} {v : Value} {g1 g2 : Nat} {vo v1 : Value} {mt out out1 : List Ln} (h : As w0 wF wr n C v g1 g2 vo mt out) (hb : Below (n + 5) wr w1) (hr : Kd.R kL 40 w1 (n + 5) (fun _ => True) v1 out1) : As w0 wF (w1.setCell ⟨n + 1, 0, none⟩ v1) n C v g1 g2 v1 mt out1 := by
  have hn := h.n0
  have hk0 : ∀ k, k < n + 5 → w1.heap[k]? = wr.heap[k]? := hb.block
  have ho := (hk0 _ (by omega)).trans h.oc
  have hk : ∀ k, k < n + 5 → k ≠ n + 1 → (w1.setCell ⟨n + 1, 0, none⟩ v1).heap[k]? = wr.heap[k]? := fun k h1 h2 => (Below.heap_setCell w1 ⟨n + 1, 0, none⟩ v1 k h2).trans (hk0 k h1)
  obtain ⟨es, clk, f, h1, h2⟩ := h.tm
  refine ⟨⟨hb.os.trans h.bw.os, hb.tape.trans h.bw.tape, hb.output.trans h.bw.output, by rw [World.size_setCell]; exact Nat.le_trans h.bw.size hb.size, fun k hk3 => (hk k (by omega) (by omega)).trans (h.bw.block k hk3)⟩, hn, by rw [World.size_setCell]; exact Nat.le_trans h.size hb.size, fun k h3 h4 => (hk k (by omega) (by omega)).trans (h.keep k h3 h4), (hk _ (by omega) (by omega)).trans h.fc, ?_, ⟨es, clk, f, (hk _ (by omega) (by omega)).trans h1, h2⟩, (hk _ (by omega) (by omega)).trans h.tc, (hk _ (by omega) (by omega)).trans h.cc, R_above hr (fun k h1 _ => Below.heap_setCell w1 ⟨n + 1, 0, none⟩ v1 k (by show k ≠ n + 1; omega))⟩
  have := blk_set ho 0 v1
  simpa using this

set_option maxHeartbeats 8000000 in
set_option maxRecDepth 100000 in
theorem tell_calls {w0 wF : World} {n g1 g2 : Nat} {U C : List Sp} {v : Value} (hC : Dis C) (hl : C.length ≤ 1000000) (hF : Fam w0.heap.size n wF U C v g1 g2) : ∀ (m : Nat) (s : Sp) (d : Int) (o : Bool) (vo : Value) (out : List Ln) (w : World),
    s ∈ C → left C out < m → 0 ≤ d → d + left C out ≤ 1000000 → out.length + left C out = C.length → As w0 wF w n C v g1 g2 vo out out →
    Calls Try.prog 22 #[.agg (encS s).toArray, .int .i64 d, .bool o, .pointer (some ⟨n + 1 + 1 + 1, 0, none⟩), .pointer (some ⟨n + 1, 0, none⟩), .pointer (some ⟨n, 0, none⟩), .pointer (some ⟨n + 1 + 1 + 1 + 1, 0, none⟩)] w fun e w' => e = .returned (.tuple #[]) ∧ ∃ vo', As w0 wF w' n C v g1 g2 vo' (tellF C m s d o out) (tellF C m s d o out) := by
  have HCC := Lib.hid hC
  have HCL := Lib.hid hl
  have HFM := Lib.hid hF
  clear hC hl hF
  intro m
  induction m with
  | zero => intro s d o vo out w _ h; exact absurd h (Nat.not_lt_zero _)
  | succ m ih =>
    intro s d o vo out w hsC hlm hd0 hdl hsum hA
    have HI := Lib.hid @ih
    have HSC := Lib.hid hsC
    have HLM := Lib.hid hlm
    have HD0 := Lib.hid hd0
    have HDL := Lib.hid hdl
    have HSUM := Lib.hid hsum
    have HA1 := Lib.hid (hA.next (below_alloc (Below.refl w.heap.size w) (.cells (encS s).toArray 38)))
    have KS := Lib.hid (heap_alloc_new w (.cells (encS s).toArray 38))
    have HVO := Lib.hid (show ∀ b, vo.ownBlock = some b → b < w.heap.size from fun b hb => by
      obtain ⟨_, inner, ho, _⟩ := hA.row
      exact own_lt ho b hb)
    have HSZ := Lib.hid hA.size
    clear ih hsC hlm hd0 hdl hsum hA
    rw [arr_S] at HA1 KS ⊢
    go_enter Try.func22, Try.ntmps22
    go_upto_region 1 with (fail)
    generalize (w.alloc (.cells #[.int .u64 s.tr, .int .u64 s.id, .int .u64 s.par, .string s.svc, .string s.op, .int .i64 s.st, .int .i64 s.du, .int .i64 s.stt, .slice s.a.1 s.a.2.1 s.a.2.2, .slice s.e.1 s.e.2.1 s.e.2.2, .slice s.l.1 s.l.2.1 s.l.2.2] 38)) = w1 at HA1 KS ⊢
    generalize (Value.agg #[.int .u64 s.tr, .int .u64 s.id, .int .u64 s.par, .string s.svc, .string s.op, .int .i64 s.st, .int .i64 s.du, .int .i64 s.stt, .slice s.a.1 s.a.2.1 s.a.2.2, .slice s.e.1 s.e.2.1 s.e.2.2, .slice s.l.1 s.l.2.1 s.l.2.2]) = junk1
    obtain ⟨es, clk, f, hm, hmo, hf⟩ := HA1.out.tm
    have y1 : w1.cell? ⟨n + 1 + 1 + 1, 0, none⟩ = some (.map (some (n + 1 + 1))) := (blk_cell HA1.out.tc 0).trans rfl
    have y2 : w1.cell? ⟨w.heap.size, 1, none⟩ = some (.int .u64 s.id) := (blk_cell KS.out 1).trans rfl
    have hlk := run_look1 (mkey_int .u64) Try.underlying49 Try.underlying33 (.int .i64 0) w1 (Try.zeroValue3 w1) hm hmo s.id
    rw [hf s.id] at hlk
    have HF := Lib.hid hf
    have HM := Lib.hid hm
    have HMO := Lib.hid hmo
    clear hf hm hmo
    cases ht : toldId out s.id with
    | true =>
      rw [ht, if_pos rfl, Option.getD_some] at hlk
      have HT := Lib.hid (show tellF C (m + 1) s d o out = out by rw [tellF, if_pos ht])
      clear ht
      go_wp2
      refine bodyPost_ret (results_none rfl _ _ _) rfl ?_
      exact ⟨rfl, vo, by rw [HT.out]; exact HA1.out⟩
    | false =>
      rw [ht, if_neg (by decide), Option.getD_none] at hlk
      have HT := Lib.hid (show tellF C (m + 1) s d o out = _ by rw [tellF, if_neg (by rw [ht]; decide)])
      have HL1 := Lib.hid (left_one (d := d) (o := o) HCC.out HSC.out ht)
      obtain ⟨es3, clk3, hput, hmo3, _⟩ := run_put (P := Try.prog) (mkey_int .u64) Try.underlying49 Try.underlying33 w1 HM.out HMO.out s.id (.int .i64 1)
      have HA2 := Lib.hid (HA1.out.put (s := s) (d := d) (o := o) HF.out hmo3)
      have K2 := Lib.hid (show (setBlock w1 (n + 1 + 1) (.map es3 clk3)).heap[w.heap.size]? = some (.cells (encS s).toArray 38 (0, 0)) by rw [heap_setBlock, if_neg (fun e => by have := e.1; have := HSZ.out; omega)]; exact KS.out)
      clear hmo3 ht
      go_upto_region 3 with (fail)
      clear hput y1 y2 hlk
      generalize setBlock w1 (n + 1 + 1) (.map es3 clk3) = w2 at HA2 K2 ⊢
      obtain ⟨Av, cv, rfl⟩ := Kd.R_slice HA2.out.row
      have y1 : w2.cell? ⟨n + 1, 0, none⟩ = some (.slice Av out.length cv) := (blk_cell HA2.out.oc 0).trans rfl
      obtain ⟨x0, x1, x2, x3, x4, x5, x6, x7, x8, x9, x10⟩ := blkS (s := s) K2.out
      have HB0 := Lib.hid (Below.refl (n + 5) w2)
      have HR0 := Lib.hid HA2.out.row
      have HO0 := Lib.hid HA2.out.oc
      have HZ2 := Lib.hid HA2.out.size
      have HOL := Lib.hid (show out.length ≤ 1000000 by have := HSUM.out; have := HCL.out; omega)
      go_upto_region 4 with (first
          | ((with_reducible refine gate_dst (N := 27) rfl ?_); refine Kd.R_lit kL (w0 := w2) (n + 5) 40 ?hg36 (N := 27) ?hd36 (xs := [⟨s, d, o⟩]) (inner := encL ⟨s, d, o⟩) (ok := fun _ => True) (okp := fun _ => True) ?hr36 ?hp36 (fun _ hk => hk) trivial HB0.out HZ2.out (by simp) ?_; (case hd36 => rfl); (case hg36 => rfl); (case hr36 => first | (go_simp; done) | (go_simp; rfl)); (case hp36 => exact reps_L _ _ _ _); intro v5 w5 ho hb hg_ hnew_; clear hnew_; obtain ⟨A5, c5, rfl⟩ := Kd.R_slice ho; have HO5 := Lib.hid (Kd.R_reads' ho).2.2; have HB5 := Lib.hid hb; have HR5 := Lib.hid (Kd.R_grown2 HR0.out rfl hg_ (fun _ h => by cases h)); have K5 := Lib.hid (blk_grown K2.out hg_ (fun h => by cases h)); clear ho hb hg_)
          | ((with_reducible refine gate_builtin (b := .append) (xs := #[.tmp 22, .tmp 27]) rfl ?_); at_builtin; refine Kd.R_append_rows kL (w0 := w2) (n + 5) rfl (.tmp 22) (.tmp 27) 26 40 (.agg #[(.int .u64 0), (.int .u64 0), (.int .u64 0), (.string ⟨#[]⟩), (.string ⟨#[]⟩), (.int .i64 0), (.int .i64 0), (.int .i64 0), (.slice none 0 0), (.slice none 0 0), (.slice none 0 0), (.int .i64 0), (.bool false)]) 168 rfl Try.underlying26 infoL rfl (by decide) (by omega) (.slice Av out.length cv) out [⟨s, d, o⟩] A5 _ c5 (fun _ => True) (fun _ => False) rfl rfl HR5.out HO5.out (fun x_ cs_ h_ => h_) (fun _ h => h.elim) (fun _ _ => trivial) HB5.out (Nat.le_trans HZ2.out HB5.out.size) (by have := HOL.out; simp; omega) ?_; intro v6 w6 ho hb hg_ hnew_; obtain ⟨A6, c6, rfl⟩ := Kd.R_slice ho; rw [show (out ++ [(⟨s, d, o⟩ : Ln)]).length = out.length + 1 by simp] at ho; have HR6 := Lib.hid ho; have HB6 := Lib.hid hb; have z6 := blk_frozen ((hb.block _ (by omega)).trans HO0.out) 0; have y6 : w6.cell? ⟨n + 1, 0, none⟩ = some (.slice Av out.length cv) := (blk_cell ((hb.block _ (by omega)).trans HO0.out) 0).trans rfl; have K6 := Lib.hid (blk_grown K5.out hg_ (fun e => by have := HVO.out w.heap.size e.symm; omega)); clear ho hb hg_ hnew_))
      have HA3 := Lib.hid (HA2.out.app HB6.out HR6.out)
      have K3 := Lib.hid (show (w6.setCell ⟨n + 1, 0, none⟩ (.slice A6 (out.length + 1) c6)).heap[w.heap.size]? = some (.cells (encS s).toArray 38 (0, 0)) by rw [Below.heap_setCell _ _ _ _ (by show w.heap.size ≠ n + 1; have := HSZ.out; omega)]; exact K6.out)
      clear y1 x0 x1 x2 x3 x4 x5 x6 x7 x8 x9 x10 z6 y6
      generalize w6.setCell ⟨n + 1, 0, none⟩ (.slice A6 (out.length + 1) c6) = w7 at HA3 K3 ⊢
      generalize (Value.slice A6 (out.length + 1) c6) = v7 at HA3 ⊢
      have y2 : w7.cell? ⟨w.heap.size, 1, none⟩ = some (.int .u64 s.id) := (blk_cell K3.out 1).trans rfl
      by_cases h0 : s.id = 0
      · have e1 : (s.id == 0) = true := beq_iff_eq.2 h0
        have HT2 := Lib.hid (show tellF C (m + 1) s d o out = out ++ [⟨s, d, o⟩] by rw [HT.out, if_pos h0])
        clear h0
        go_wp2
        refine bodyPost_ret (results_none rfl _ _ _) rfl ?_
        exact ⟨rfl, v7, by rw [HT2.out]; exact HA3.out⟩
      · have e1 : (s.id == 0) = false := beq_eq_false_iff_ne.2 h0
        have HT2 := Lib.hid (show tellF C (m + 1) s d o out = (kidsOf C s.id).foldl (fun o2 k => tellF C m k (d + 1) false o2) (out ++ [⟨s, d, o⟩]) by rw [HT.out, if_neg h0])
        have HNE := Lib.hid h0
        clear h0
        obtain ⟨es4, clk4, f4, hm4, hmo4, hr4⟩ := HFM.out.m2
        have hm5 := (HA3.out.keep g2 HFM.out.b2.1 HFM.out.b2.2).trans hm4
        have hlk := run_look1 (mkey_int .u64) Try.underlying45 Try.underlying33 (.slice none 0 0) w7 (Try.zeroValue22 w7) hm5 hmo4 s.id
        have hrk := hr4 s.id
        obtain ⟨Ak, ck, hke⟩ := Kd.R_slice hrk
        rw [hke] at hlk hrk
        have HRK := Lib.hid hrk
        have HKL := Lib.hid (show (kidsOf C s.id).length ≤ 1000000 from Nat.le_trans (List.length_filter_le _ _) HCL.out)
        have y3 : w7.cell? ⟨n, 2, none⟩ = some (.map (some g2)) := (blk_cell HA3.out.fc 2).trans rfl
        clear hm4 hmo4 hr4 hm5 hke hrk
        go_wp2
        clear hlk y2 y3 e1
        go_loopw [11, 38] (fun _ i wr => ∃ (k : Nat) (vk : Value), k ≤ (kidsOf C s.id).length ∧ i = .int .i64 k ∧ Hid (As w0 wF wr n C v g1 g2 vk (((kidsOf C s.id).take k).foldl (fun o2 k => tellF C m k (d + 1) false o2) (out ++ [⟨s, d, o⟩])) (((kidsOf C s.id).take k).foldl (fun o2 k => tellF C m k (d + 1) false o2) (out ++ [⟨s, d, o⟩]))) ∧ Hid (left C (((kidsOf C s.id).take k).foldl (fun o2 k => tellF C m k (d + 1) false o2) (out ++ [⟨s, d, o⟩])) ≤ left C (out ++ [⟨s, d, o⟩])) ∧ Hid ((((kidsOf C s.id).take k).foldl (fun o2 k => tellF C m k (d + 1) false o2) (out ++ [⟨s, d, o⟩])).length + left C (((kidsOf C s.id).take k).foldl (fun o2 k => tellF C m k (d + 1) false o2) (out ++ [⟨s, d, o⟩])) = C.length)) (fun _ i _ => (kidsOf C s.id).length - (intOf i).toNat)
        case atStart => exact ⟨0, v7, by omega, rfl, HA3, Lib.hid (Nat.le_refl _), Lib.hid (by have := HSUM.out; have := HL1.out; show (out ++ [(⟨s, d, o⟩ : Ln)]).length + left C (out ++ [⟨s, d, o⟩]) = C.length; rw [List.length_append, List.length_singleton]; omega)⟩
        case round =>
          clear HA3 K3 HA2 K2 HA1 KS HB0 HR0 HO0 HZ2 HOL HB5 HR5 K5 HR6 HB6 K6
          obtain ⟨k, vk, hk, rfl, HA, HLk, HSk⟩ := hrel
          by_cases hlt : k < (kidsOf C s.id).length
          · obtain ⟨y, hy⟩ : ∃ y, (kidsOf C s.id)[k]? = some y := ⟨_, List.getElem?_eq_getElem hlt⟩
            obtain ⟨ad, rfl, x0, x1, x2, x3, x4, x5, x6, x7, x8, x9, x10⟩ := at_S (Kd.R_reads' (R_range HRK.out HA.out.keep)).2.2 hy
            have HYC := Lib.hid (show y ∈ C from (kids_mem.1 (List.mem_of_getElem? hy)).1)
            have HTk := Lib.hid (show ((kidsOf C s.id).take (k + 1)).foldl (fun o2 k => tellF C m k (d + 1) false o2) (out ++ [⟨s, d, o⟩]) = tellF C m y (d + 1) false (((kidsOf C s.id).take k).foldl (fun o2 k => tellF C m k (d + 1) false o2) (out ++ [⟨s, d, o⟩])) by
              obtain ⟨hk2, e⟩ := List.getElem?_eq_some_iff.1 hy
              rw [List.take_succ_eq_append_getElem hk2, e, List.foldl_append]
              rfl)
            have q : (k : Int) < ((kidsOf C s.id).length : Int) := by omega
            have HK := Lib.hid (show k + 1 ≤ (kidsOf C s.id).length by omega)
            have HW := Lib.hid (show wrap64 ((k : Int) + 1) = ((k + 1 : Nat) : Int) by have := HKL.out; unfold wrap64; omega)
            have hwd : wrap64 (d + 1) = d + 1 := by have := HD0.out; have := HDL.out; unfold wrap64; omega
            generalize hO : ((kidsOf C s.id).take k).foldl (fun o2 k => tellF C m k (d + 1) false o2) (out ++ [⟨s, d, o⟩]) = outk at HA HLk HSk HTk
            have hz := below_alloc (Below.refl wr.heap.size wr) (.cells (encS y).toArray 38)
            have HAx := Lib.hid (HA.out.next hz)
            have KY := Lib.hid (heap_alloc_new wr (.cells (encS y).toArray 38))
            rw [arr_S] at HAx KY
            clear hy hlt hk hz hO
            go_upto_region 8 with (fail)
            clear x0 x1 x2 x3 x4 x5 x6 x7 x8 x9 x10 q
            generalize (wr.alloc (.cells #[.int .u64 y.tr, .int .u64 y.id, .int .u64 y.par, .string y.svc, .string y.op, .int .i64 y.st, .int .i64 y.du, .int .i64 y.stt, .slice y.a.1 y.a.2.1 y.a.2.2, .slice y.e.1 y.e.2.1 y.e.2.2, .slice y.l.1 y.l.2.1 y.l.2.2] 38)) = w8 at HAx KY ⊢
            have y0 : w8.cell? ⟨n + 1 + 1 + 1 + 1, 0, none⟩ = some (.func (.func 22) #[] #[.pointer (some ⟨n + 1 + 1 + 1, 0, none⟩), .pointer (some ⟨n + 1, 0, none⟩), .pointer (some ⟨n, 0, none⟩), .pointer (some ⟨n + 1 + 1 + 1 + 1, 0, none⟩)]) := (blk_cell HAx.out.cc 0).trans rfl
            obtain ⟨x0, x1, x2, x3, x4, x5, x6, x7, x8, x9, x10⟩ := blkS (s := y) KY.out
            have hcall := HI.out y (d + 1) false vk outk w8 HYC.out (by have h1 := HLk.out; have h2 := HL1.out; have h3 := HLM.out; omega) (by have := HD0.out; omega) (by have h1 := HLk.out; have h2 := HL1.out; have h3 := HDL.out; omega) HSk.out HAx.out
            have HCALL := Lib.hid hcall
            rw [arr_S] at HCALL
            clear hcall
            go_wp2_with fail
            refine HCALL.out.mono ?_
            rintro e w9 ⟨rfl, vk2, hA9⟩
            have HA9 := Lib.hid hA9
            have HL9 := Lib.hid (show left C (tellF C m y (d + 1) false outk) ≤ left C (out ++ [⟨s, d, o⟩]) from Nat.le_trans (tellF_left m y (d + 1) false outk) HLk.out)
            have HS9 := Lib.hid (tellF_sum HCC.out m y (d + 1) false outk HYC.out HSk.out)
            rw [← HTk.out] at HA9 HL9 HS9
            clear hA9 y0 x0 x1 x2 x3 x4 x5 x6 x7 x8 x9 x10 hwd
            go_wp2
            go_roundw
            case rel => exact ⟨k + 1, vk2, HK.out, by rw [HW.out], HA9, HL9, HS9⟩
            case measure => exact meas_up HKL.out HK.out
          · have hkl : k = (kidsOf C s.id).length := by omega
            subst hkl
            have q : decide (((kidsOf C s.id).length : Int) < ((kidsOf C s.id).length : Int)) = false := decide_eq_false (by omega)
            rw [List.take_length, ← HT2.out] at HA
            clear hlt hk HLk HSk
            go_wp2
            first
              | exact bodyPost_ret (results_none rfl _ _ _) rfl ⟨rfl, vk, HA.out⟩
              | exact bodyPost_end (results_none rfl _ _ _) rfl ⟨rfl, vk, HA.out⟩

end Go.Proofs.Ytoigebnhnkdbbaa.Tr

namespace Go.Proofs.Ytoigebnhnkdbbaa.Tr
open Go.RowKit Go.Proofs.YtoigebnhnkdbbaaW.PrintWords Go.Proofs.YtoigebnhnkdbbaaW.PrintLast Go.Proofs.YtoigebnhnkdbbaaW.PrintMore Go.Proofs.Ytoigebnhnkdbbaa.Math Go.Proofs.Ytoigebnhnkdbbaa.PAll Go.Proofs.Ytoigebnhnkdbbaa.MapG
open Go.ChangeMaps (setBlock)
set_option linter.unusedVariables false
set_option linter.unusedSimpArgs false

theorem As.start {w0 w1 : World} {C : List Sp} {v : Value} {g1 g2 : Nat} (hb : Below w0.heap.size w0 w1) : (((((w1.alloc (.cells #[v, .map (some g1), .map (some g2)] 47)).alloc (.cells #[.slice none 0 0] 26)).alloc (.map #[] 0)).alloc (.cells #[.map (some (w1.heap.size + 1 + 1))] 49)).alloc (.cells #[.nilFunc] 50)).heap[w1.heap.size + 1 + 1 + 1 + 1]? = some (.cells #[.nilFunc] 50 (0, 0)) ∧ As w0 w1 ((((((w1.alloc (.cells #[v, .map (some g1), .map (some g2)] 47)).alloc (.cells #[.slice none 0 0] 26)).alloc (.map #[] 0)).alloc (.cells #[.map (some (w1.heap.size + 1 + 1))] 49)).alloc (.cells #[.nilFunc] 50)).setCell ⟨w1.heap.size + 1 + 1 + 1 + 1, 0, none⟩ (.func (.func 22) #[] #[.pointer (some ⟨w1.heap.size + 1 + 1 + 1, 0, none⟩), .pointer (some ⟨w1.heap.size + 1, 0, none⟩), .pointer (some ⟨w1.heap.size, 0, none⟩), .pointer (some ⟨w1.heap.size + 1 + 1 + 1 + 1, 0, none⟩)])) w1.heap.size C v g1 g2 (.slice none 0 0) [] [] := by
  have sz : ∀ (W : World) (o : Obj), (W.alloc o).heap.size = W.heap.size + 1 := fun W o => by simp
  have b : ∀ (W : World) (o : Obj), Below W.heap.size W (W.alloc o) := fun W o => below_alloc (Below.refl _ _) o
  generalize hF : (Value.func (.func 22) #[] #[.pointer (some ⟨w1.heap.size + 1 + 1 + 1, 0, none⟩), .pointer (some ⟨w1.heap.size + 1, 0, none⟩), .pointer (some ⟨w1.heap.size, 0, none⟩), .pointer (some ⟨w1.heap.size + 1 + 1 + 1 + 1, 0, none⟩)]) = F
  have h1 := heap_alloc_new w1 (.cells #[v, .map (some g1), .map (some g2)] 47)
  have h2 := heap_alloc_new (w1.alloc (.cells #[v, .map (some g1), .map (some g2)] 47)) (.cells #[.slice none 0 0] 26)
  have h3 := heap_alloc_new ((w1.alloc (.cells #[v, .map (some g1), .map (some g2)] 47)).alloc (.cells #[.slice none 0 0] 26)) (.map #[] 0)
  have h4 := heap_alloc_new (((w1.alloc (.cells #[v, .map (some g1), .map (some g2)] 47)).alloc (.cells #[.slice none 0 0] 26)).alloc (.map #[] 0)) (.cells #[.map (some (w1.heap.size + 1 + 1))] 49)
  have h5 := heap_alloc_new ((((w1.alloc (.cells #[v, .map (some g1), .map (some g2)] 47)).alloc (.cells #[.slice none 0 0] 26)).alloc (.map #[] 0)).alloc (.cells #[.map (some (w1.heap.size + 1 + 1))] 49)) (.cells #[.nilFunc] 50)
  simp only [sz] at h2 h3 h4 h5
  have hbb := below_alloc (below_alloc (below_alloc (below_alloc (below_alloc (Below.refl w1.heap.size w1) (.cells #[v, .map (some g1), .map (some g2)] 47)) (.cells #[.slice none 0 0] 26)) (.map #[] 0)) (.cells #[.map (some (w1.heap.size + 1 + 1))] 49)) (.cells #[.nilFunc] 50)
  have hbs := below_set (g := w1.heap.size + 1 + 1 + 1 + 1) (j := 0) (v := F) hbb (by omega)
  have far : ∀ k, k < w1.heap.size + 1 + 1 + 1 + 1 → ((((((w1.alloc (.cells #[v, .map (some g1), .map (some g2)] 47)).alloc (.cells #[.slice none 0 0] 26)).alloc (.map #[] 0)).alloc (.cells #[.map (some (w1.heap.size + 1 + 1))] 49)).alloc (.cells #[.nilFunc] 50)).setCell ⟨w1.heap.size + 1 + 1 + 1 + 1, 0, none⟩ F).heap[k]? = (((((w1.alloc (.cells #[v, .map (some g1), .map (some g2)] 47)).alloc (.cells #[.slice none 0 0] 26)).alloc (.map #[] 0)).alloc (.cells #[.map (some (w1.heap.size + 1 + 1))] 49)).alloc (.cells #[.nilFunc] 50)).heap[k]? := fun k hk => Below.heap_setCell _ _ _ _ (by show k ≠ w1.heap.size + 1 + 1 + 1 + 1; omega)
  refine ⟨h5, below_step hb hbs, hb.size, by simp only [World.size_setCell, sz]; omega, fun k _ hk => hbs.block k hk, (far _ (by omega)).trans (block_below (block_below (block_below (block_below h1 (b _ _)) (b _ _)) (b _ _)) (b _ _)), (far _ (by omega)).trans (block_below (block_below (block_below h2 (b _ _)) (b _ _)) (b _ _)), ⟨#[], 0, _, (far _ (by omega)).trans (block_below (block_below h3 (b _ _)) (b _ _)), MOk.empty _ 0, fun i => rfl⟩, (far _ (by omega)).trans (block_below h4 (b _ _)), ?_, Kd.R_nil _ _ _ _ _⟩
  rw [hF]
  have := blk_set h5 0 F
  simpa using this

theorem hasId_uq (l : List Sp) (i : Int) : hasId (uq l) i = hasId (cnt l) i := (uq_has l i).trans (cnt_has l i).symm
theorem rootB_orph {C : List Sp} {s : Sp} (h : rootB C s = true) : (s.par != 0 && !hasId C s.par) = (s.par != 0) := by
  unfold rootB at h
  cases h1 : hasId C s.par with
  | true =>
    rw [h1] at h
    have h0 : s.par = 0 := by simpa using h
    simp [h0]
  | false => simp
theorem left_nil (C : List Sp) : ([] : List Ln).length + left C [] = C.length := by simp [left, toldId]

set_option maxHeartbeats 8000000 in
set_option maxRecDepth 100000 in
theorem assemble_calls (A : Option Addr) (c : Nat) (l : List Sp) (w : World) (hr : Kd.C kS w A l.length l) (hl : l.length ≤ c) (hn : l.length ≤ 1000000) :
    Calls Try.prog 10 #[.slice A l.length c] w fun e w' => ∃ v, e = .returned v ∧ Kd.R kL 40 w' w.heap.size (fun _ => True) v (asm (cnt l)) ∧ Below w.heap.size w w' := by
  have hgc := gathered_calls A c l w hr hl hn
  have hD := cnt_dis l
  have hcl : (cnt l).length ≤ 1000000 := Nat.le_trans (cnt_len l) hn
  have hU := hasId_uq l
  obtain ⟨C, hC⟩ : ∃ C, cnt l = C := ⟨_, rfl⟩
  obtain ⟨U, hUe⟩ : ∃ U, uq l = U := ⟨_, rfl⟩
  rw [hC] at hgc hD hcl hU ⊢
  rw [hUe] at hgc hU
  have HGC := Lib.hid hgc
  have HD := Lib.hid hD
  have HCL := Lib.hid hcl
  have HU := Lib.hid hU
  clear hgc hD hcl hU hC hUe hr hl hn
  have hmf : ∀ (fn : Fn) (first cap : Array Value) (w : World), (Instr.makeFunc fn first cap).run Try.prog w = .ok (.func fn first cap) w := fun _ _ _ _ => rfl
  have hmm := @run_makeMap Try.prog
  go_enter Try.func10, Try.ntmps10
  go_wp2_with fail
  refine HGC.out.mono ?_
  rintro e w1 ⟨v, g1, g2, rfl, hF, hb⟩
  obtain ⟨Av, cv, rfl⟩ := Kd.R_slice hF.row
  have HF := Lib.hid hF
  have HA0 := Lib.hid (As.start (C := C) (v := .slice Av C.length cv) (g1 := g1) (g2 := g2) hb)
  clear hF hb HGC
  go_upto_region 5 with (fail)
  generalize (((((w1.alloc (.cells #[.slice Av C.length cv, .map (some g1), .map (some g2)] 47)).alloc (.cells #[.slice none 0 0] 26)).alloc (.map #[] 0)).alloc (.cells #[.map (some (w1.heap.size + 1 + 1))] 49)).alloc (.cells #[.nilFunc] 50)) = wS at HA0 ⊢
  have f5 := blk_frozen HA0.out.1 0
  have c5 : wS.cell? ⟨w1.heap.size + 1 + 1 + 1 + 1, 0, none⟩ = some .nilFunc := (blk_cell HA0.out.1 0).trans rfl
  go_upto_region 6 with (fail)
  clear f5 c5
  have HA := Lib.hid HA0.out.2
  clear HA0
  generalize hwB : wS.setCell ⟨w1.heap.size + 1 + 1 + 1 + 1, 0, none⟩ (.func (.func 22) #[] #[.pointer (some ⟨w1.heap.size + 1 + 1 + 1, 0, none⟩), .pointer (some ⟨w1.heap.size + 1, 0, none⟩), .pointer (some ⟨w1.heap.size, 0, none⟩), .pointer (some ⟨w1.heap.size + 1 + 1 + 1 + 1, 0, none⟩)]) = wB at HA ⊢
  clear hwB
  have hfun : True := trivial
  generalize Value.func (.func 22) #[] #[.pointer (some ⟨w1.heap.size + 1 + 1 + 1, 0, none⟩), .pointer (some ⟨w1.heap.size + 1, 0, none⟩), .pointer (some ⟨w1.heap.size, 0, none⟩), .pointer (some ⟨w1.heap.size + 1 + 1 + 1 + 1, 0, none⟩)] = junkF
  have y0 : wB.cell? ⟨w1.heap.size, 0, none⟩ = some (.slice Av C.length cv) := (blk_cell HA.out.fc 0).trans rfl
  go_wp2
  clear y0
  go_loopw [8, 9, 10, 20] (fun _ _ _ i wr => ∃ (k : Nat) (vk : Value), k ≤ C.length ∧ i = .int .i64 k ∧ Hid (As w w1 wr w1.heap.size C (.slice Av C.length cv) g1 g2 vk ((C.take k).foldl (fun o s => if rootB C s = true then tell C s 0 (s.par != 0) o else o) []) ((C.take k).foldl (fun o s => if rootB C s = true then tell C s 0 (s.par != 0) o else o) [])) ∧ Hid (((C.take k).foldl (fun o s => if rootB C s = true then tell C s 0 (s.par != 0) o else o) []).length + left C ((C.take k).foldl (fun o s => if rootB C s = true then tell C s 0 (s.par != 0) o else o) []) = C.length)) (fun _ _ _ i _ => C.length - (intOf i).toNat)
  case atStart => exact ⟨0, .slice none 0 0, by omega, rfl, HA, Lib.hid (left_nil C)⟩
  case round =>
    clear HA
    obtain ⟨k, vk, hk, rfl, HA, HS⟩ := hrel
    by_cases hlt : k < C.length
    · obtain ⟨s, hs⟩ : ∃ s, C[k]? = some s := ⟨_, List.getElem?_eq_getElem hlt⟩
      obtain ⟨ad, rfl, x0, x1, x2, x3, x4, x5, x6, x7, x8, x9, x10⟩ := at_S (Kd.R_reads' (R_range HF.out.row HA.out.keep)).2.2 hs
      have HSC := Lib.hid (show s ∈ C from List.mem_of_getElem? hs)
      have HTk := Lib.hid (show (C.take (k + 1)).foldl (fun o s => if rootB C s = true then tell C s 0 (s.par != 0) o else o) [] = if rootB C s = true then tell C s 0 (s.par != 0) ((C.take k).foldl (fun o s => if rootB C s = true then tell C s 0 (s.par != 0) o else o) []) else ((C.take k).foldl (fun o s => if rootB C s = true then tell C s 0 (s.par != 0) o else o) []) by
        obtain ⟨hk2, e⟩ := List.getElem?_eq_some_iff.1 hs
        rw [List.take_succ_eq_append_getElem hk2, e, List.foldl_append]
        rfl)
      have q : (k : Int) < (C.length : Int) := by omega
      have HK := Lib.hid (show k + 1 ≤ C.length by omega)
      have HW := Lib.hid (show wrap64 ((k : Int) + 1) = ((k + 1 : Nat) : Int) by have := HCL.out; unfold wrap64; omega)
      generalize hO : ((C.take k).foldl (fun o s => if rootB C s = true then tell C s 0 (s.par != 0) o else o) []) = outk at HA HS HTk
      have hz := below_alloc (Below.refl wr.heap.size wr) (.cells (encS s).toArray 38)
      have HAx := Lib.hid (HA.out.next hz)
      have KY := Lib.hid (heap_alloc_new wr (.cells (encS s).toArray 38))
      rw [arr_S] at HAx KY
      clear hs hlt hk hz hO
      go_upto_region 9 with (fail)
      clear x0 x1 x2 x3 x4 x5 x6 x7 x8 x9 x10 q
      generalize (wr.alloc (.cells #[.int .u64 s.tr, .int .u64 s.id, .int .u64 s.par, .string s.svc, .string s.op, .int .i64 s.st, .int .i64 s.du, .int .i64 s.stt, .slice s.a.1 s.a.2.1 s.a.2.2, .slice s.e.1 s.e.2.1 s.e.2.2, .slice s.l.1 s.l.2.1 s.l.2.2] 38)) = w8 at HAx KY ⊢
      have y0 : w8.cell? ⟨w1.heap.size, 0, none⟩ = some (.slice (some ad) C.length cv) := (blk_cell HAx.out.fc 0).trans rfl
      have y1 : w8.cell? ⟨w1.heap.size, 1, none⟩ = some (.map (some g1)) := (blk_cell HAx.out.fc 1).trans rfl
      have y2 : w8.cell? ⟨w1.heap.size, 2, none⟩ = some (.map (some g2)) := (blk_cell HAx.out.fc 2).trans rfl
      obtain ⟨x0, x1, x2, x3, x4, x5, x6, x7, x8, x9, x10⟩ := blkS (s := s) KY.out
      have hroot := root_calls (HF.out.move HAx.out.keep) (by have := HAx.out.size; omega) s
      rw [HU.out, arr_S] at hroot
      have HROOT := Lib.hid hroot
      clear hroot
      go_wp2_with fail
      refine HROOT.out.mono ?_
      rintro e w9 ⟨rfl, hb9⟩
      have HA9 := Lib.hid (HAx.out.next hb9)
      have K9 := Lib.hid (block_below KY.out hb9)
      clear hb9 y0 y1 y2 x0 x1 x2 x3 x4 x5 x6 x7 x8 x9 x10
      cases hroot : rootB C s with
      | true =>
        have e1 : (s.par == 0 || !hasId C s.par) = true := hroot
        have e2 := rootB_orph hroot
        rw [e1, e2]
        have HT2 := Lib.hid (show (C.take (k + 1)).foldl (fun o s => if rootB C s = true then tell C s 0 (s.par != 0) o else o) [] = tell C s 0 (s.par != 0) outk by rw [HTk.out, if_pos hroot])
        clear hroot e1 e2
        obtain ⟨ob, hob⟩ : ∃ b, (s.par != 0) = b := ⟨_, rfl⟩
        rw [hob] at HT2 ⊢
        clear hob
        have y0 : w9.cell? ⟨w1.heap.size + 1 + 1 + 1 + 1, 0, none⟩ = some (.func (.func 22) #[] #[.pointer (some ⟨w1.heap.size + 1 + 1 + 1, 0, none⟩), .pointer (some ⟨w1.heap.size + 1, 0, none⟩), .pointer (some ⟨w1.heap.size, 0, none⟩), .pointer (some ⟨w1.heap.size + 1 + 1 + 1 + 1, 0, none⟩)]) := (blk_cell HA9.out.cc 0).trans rfl
        obtain ⟨x0, x1, x2, x3, x4, x5, x6, x7, x8, x9, x10⟩ := blkS (s := s) K9.out
        have hcall := tell_calls HD.out HCL.out HF.out (C.length + 1) s 0 ob vk outk w9 HSC.out (Nat.lt_succ_of_le (left_le C outk)) (Int.le_refl _) (by have h1 := left_le C outk; have h2 := HCL.out; omega) HS.out HA9.out
        rw [arr_S] at hcall
        have HCALL := Lib.hid hcall
        clear hcall
        go_wp2_with fail
        refine HCALL.out.mono ?_
        rintro e w10 ⟨rfl, vk2, hA10⟩
        have HA10 := Lib.hid hA10
        have HS10 := Lib.hid (tellF_sum HD.out (C.length + 1) s 0 ob outk HSC.out HS.out)
        change Hid (As w w1 w10 w1.heap.size C (.slice (some ad) C.length cv) g1 g2 vk2 (tell C s 0 ob outk) (tell C s 0 ob outk)) at HA10
        change Hid ((tell C s 0 ob outk).length + left C (tell C s 0 ob outk) = C.length) at HS10
        rw [← HT2.out] at HA10 HS10
        clear hA10 y0 x0 x1 x2 x3 x4 x5 x6 x7 x8 x9 x10
        go_wp2
        go_roundw
        case rel => exact ⟨k + 1, vk2, HK.out, by rw [HW.out], HA10, HS10⟩
        case measure => exact meas_up HCL.out HK.out
      | false =>
        have e1 : (s.par == 0 || !hasId C s.par) = false := hroot
        rw [e1]
        have HT2 := Lib.hid (show (C.take (k + 1)).foldl (fun o s => if rootB C s = true then tell C s 0 (s.par != 0) o else o) [] = outk by rw [HTk.out, if_neg (by rw [hroot]; decide)])
        clear hroot e1
        generalize (s.par != 0 && !hasId C s.par) = ob
        rw [← HT2.out] at HA9 HS
        go_wp2
        go_roundw
        case rel => exact ⟨k + 1, vk, HK.out, by rw [HW.out], HA9, HS⟩
        case measure => exact meas_up HCL.out HK.out
    · have hkl : k = C.length := by omega
      subst hkl
      have q : decide ((C.length : Int) < (C.length : Int)) = false := decide_eq_false (by omega)
      rw [List.take_length] at HA HS
      change Hid (As w w1 wr w1.heap.size C (.slice Av C.length cv) g1 g2 vk (asm1 C) (asm1 C)) at HA
      change Hid ((asm1 C).length + left C (asm1 C) = C.length) at HS
      have y0 : wr.cell? ⟨w1.heap.size, 0, none⟩ = some (.slice Av C.length cv) := (blk_cell HA.out.fc 0).trans rfl
      clear hlt hk
      go_wp2
      clear y0
      go_loopw [12, 39] (fun _ i wr => ∃ (k : Nat) (vk : Value), k ≤ C.length ∧ i = .int .i64 k ∧ Hid (As w w1 wr w1.heap.size C (.slice Av C.length cv) g1 g2 vk ((C.take k).foldl (fun o s => tell C s 0 true o) (asm1 C)) ((C.take k).foldl (fun o s => tell C s 0 true o) (asm1 C))) ∧ Hid (((C.take k).foldl (fun o s => tell C s 0 true o) (asm1 C)).length + left C ((C.take k).foldl (fun o s => tell C s 0 true o) (asm1 C)) = C.length)) (fun _ i _ => C.length - (intOf i).toNat)
      case atStart => exact ⟨0, vk, by omega, rfl, HA, HS⟩
      case round =>
        clear HA HS
        obtain ⟨k, vk, hk, rfl, HA, HS⟩ := hrel
        by_cases hlt : k < C.length
        · obtain ⟨s, hs⟩ : ∃ s, C[k]? = some s := ⟨_, List.getElem?_eq_getElem hlt⟩
          obtain ⟨ad, rfl, x0, x1, x2, x3, x4, x5, x6, x7, x8, x9, x10⟩ := at_S (Kd.R_reads' (R_range HF.out.row HA.out.keep)).2.2 hs
          have HSC := Lib.hid (show s ∈ C from List.mem_of_getElem? hs)
          have HT2 := Lib.hid (show (C.take (k + 1)).foldl (fun o s => tell C s 0 true o) (asm1 C) = tell C s 0 true ((C.take k).foldl (fun o s => tell C s 0 true o) (asm1 C)) by
            obtain ⟨hk2, e⟩ := List.getElem?_eq_some_iff.1 hs
            rw [List.take_succ_eq_append_getElem hk2, e, List.foldl_append]
            rfl)
          have q : (k : Int) < (C.length : Int) := by omega
          have HK := Lib.hid (show k + 1 ≤ C.length by omega)
          have HW := Lib.hid (show wrap64 ((k : Int) + 1) = ((k + 1 : Nat) : Int) by have := HCL.out; unfold wrap64; omega)
          generalize hO : ((C.take k).foldl (fun o s => tell C s 0 true o) (asm1 C)) = outk at HA HS HT2
          have hz := below_alloc (Below.refl wr.heap.size wr) (.cells (encS s).toArray 38)
          have HAx := Lib.hid (HA.out.next hz)
          have KY := Lib.hid (heap_alloc_new wr (.cells (encS s).toArray 38))
          rw [arr_S] at HAx KY
          clear hs hlt hk hz hO
          go_upto_region 16 with (fail)
          clear x0 x1 x2 x3 x4 x5 x6 x7 x8 x9 x10 q
          generalize (wr.alloc (.cells #[.int .u64 s.tr, .int .u64 s.id, .int .u64 s.par, .string s.svc, .string s.op, .int .i64 s.st, .int .i64 s.du, .int .i64 s.stt, .slice s.a.1 s.a.2.1 s.a.2.2, .slice s.e.1 s.e.2.1 s.e.2.2, .slice s.l.1 s.l.2.1 s.l.2.2] 38)) = w9 at HAx KY ⊢
          have y0 : w9.cell? ⟨w1.heap.size + 1 + 1 + 1 + 1, 0, none⟩ = some (.func (.func 22) #[] #[.pointer (some ⟨w1.heap.size + 1 + 1 + 1, 0, none⟩), .pointer (some ⟨w1.heap.size + 1, 0, none⟩), .pointer (some ⟨w1.heap.size, 0, none⟩), .pointer (some ⟨w1.heap.size + 1 + 1 + 1 + 1, 0, none⟩)]) := (blk_cell HAx.out.cc 0).trans rfl
          obtain ⟨x0, x1, x2, x3, x4, x5, x6, x7, x8, x9, x10⟩ := blkS (s := s) KY.out
          have hcall := tell_calls HD.out HCL.out HF.out (C.length + 1) s 0 true vk outk w9 HSC.out (Nat.lt_succ_of_le (left_le C outk)) (Int.le_refl _) (by have h1 := left_le C outk; have h2 := HCL.out; omega) HS.out HAx.out
          rw [arr_S] at hcall
          have HCALL := Lib.hid hcall
          clear hcall
          go_wp2_with fail
          refine HCALL.out.mono ?_
          rintro e w10 ⟨rfl, vk2, hA10⟩
          have HA10 := Lib.hid hA10
          have HS10 := Lib.hid (tellF_sum HD.out (C.length + 1) s 0 true outk HSC.out HS.out)
          change Hid (As w w1 w10 w1.heap.size C (.slice (some ad) C.length cv) g1 g2 vk2 (tell C s 0 true outk) (tell C s 0 true outk)) at HA10
          change Hid ((tell C s 0 true outk).length + left C (tell C s 0 true outk) = C.length) at HS10
          rw [← HT2.out] at HA10 HS10
          clear hA10 y0 x0 x1 x2 x3 x4 x5 x6 x7 x8 x9 x10
          go_wp2
          go_roundw
          case rel => exact ⟨k + 1, vk2, HK.out, by rw [HW.out], HA10, HS10⟩
          case measure => exact meas_up HCL.out HK.out
        · have hkl : k = C.length := by omega
          subst hkl
          have q : decide ((C.length : Int) < (C.length : Int)) = false := decide_eq_false (by omega)
          rw [List.take_length] at HA HS
          change Hid (As w w1 wr w1.heap.size C (.slice Av C.length cv) g1 g2 vk (asm C) (asm C)) at HA
          obtain ⟨Ao, co, rfl⟩ := Kd.R_slice HA.out.row
          have y0 : wr.cell? ⟨w1.heap.size + 1, 0, none⟩ = some (.slice Ao (asm C).length co) := (blk_cell HA.out.oc 0).trans rfl
          clear hlt hk
          go_wp2
          go_ret
          exact ⟨_, rfl, Kd.R_lower HA.out.row (by have := HA.out.n0; omega), HA.out.bw⟩

end Go.Proofs.Ytoigebnhnkdbbaa.Tr
