/- trace.family.root (chapter 26), by hand. -/
import Derived.Test.YtoigebnhnkdbbaaTrGather
namespace Go.Proofs.Ytoigebnhnkdbbaa.Tr
open Go.RowKit Go.Proofs.YtoigebnhnkdbbaaW.PrintWords Go.Proofs.YtoigebnhnkdbbaaW.PrintLast Go.Proofs.YtoigebnhnkdbbaaW.PrintMore Go.Proofs.Ytoigebnhnkdbbaa.Math Go.Proofs.Ytoigebnhnkdbbaa.PAll Go.Proofs.Ytoigebnhnkdbbaa.MapG
open Go.ChangeMaps (setBlock)
set_option linter.unusedVariables false
set_option linter.unusedSimpArgs false

theorem byId_get {U : List Sp} {i : Int} (h : hasId U i = true) : ∃ s2, byId U i = some (.agg (encS s2).toArray) := by
  have h2 := byId_isSome U i
  rw [h] at h2
  unfold byId at h2 ⊢
  cases hf : U.find? fun s_1 => s_1.id == i with
  | none => rw [hf] at h2; cases h2
  | some s2 => exact ⟨s2, rfl⟩
theorem byId_no {U : List Sp} {i : Int} (h : hasId U i = false) : byId U i = none := by
  have h2 := byId_isSome U i
  rw [h] at h2
  cases hf : byId U i with
  | none => rfl
  | some v => rw [hf] at h2; cases h2

set_option maxHeartbeats 4000000 in
set_option maxRecDepth 100000 in
theorem root_calls {lo hi g1 g2 : Nat} {U C : List Sp} {v : Value} {w : World} (hF : Fam lo hi w U C v g1 g2) (hh : hi ≤ w.heap.size) (s : Sp) :
    Calls Try.prog 23 #[.agg #[v, .map (some g1), .map (some g2)], .agg (encS s).toArray] w fun e w' => e = .returned (.tuple #[.bool (s.par == 0 || !hasId U s.par), .bool (s.par != 0 && !hasId U s.par)]) ∧ Below w.heap.size w w' := by
  obtain ⟨Av, cv, rfl⟩ := Kd.R_slice hF.row
  generalize C.length = m
  have hb := below_alloc (below_alloc (Below.refl w.heap.size w) (.cells #[.slice Av m cv, .map (some g1), .map (some g2)] 47)) (.cells (encS s).toArray 38)
  have k1 : ((w.alloc (.cells #[.slice Av m cv, .map (some g1), .map (some g2)] 47)).alloc (.cells (encS s).toArray 38)).heap[w.heap.size]? = some (.cells #[.slice Av m cv, .map (some g1), .map (some g2)] 47 (0, 0)) := block_below (heap_alloc_new w _) (below_alloc (Below.refl _ _) _)
  have k2 : ((w.alloc (.cells #[.slice Av m cv, .map (some g1), .map (some g2)] 47)).alloc (.cells (encS s).toArray 38)).heap[(w.alloc (.cells #[.slice Av m cv, .map (some g1), .map (some g2)] 47)).heap.size]? = some (.cells (encS s).toArray 38 (0, 0)) := heap_alloc_new _ _
  rw [show (w.alloc (.cells #[.slice Av m cv, .map (some g1), .map (some g2)] 47)).heap.size = w.heap.size + 1 by simp] at k2
  obtain ⟨es, clk, hm0, hmo⟩ := hF.m1
  have hm := block_below hm0 hb
  have HB := Lib.hid hb
  have K1 := Lib.hid k1
  have K2 := Lib.hid k2
  have HM := Lib.hid hm
  have HMO := Lib.hid hmo
  clear hb k1 k2 hm0 hm hmo
  obtain ⟨r1, hr1⟩ : ∃ r, (s.par == 0 || !hasId U s.par) = r := ⟨_, rfl⟩
  obtain ⟨r2, hr2⟩ : ∃ r, (s.par != 0 && !hasId U s.par) = r := ⟨_, rfl⟩
  rw [hr1, hr2]
  have HR1 := Lib.hid hr1
  have HR2 := Lib.hid hr2
  clear hr1 hr2
  rw [arr_S] at HB K1 K2 HM ⊢
  go_enter Try.func23, Try.ntmps23
  go_upto_region 1 with (fail)
  generalize ((w.alloc (.cells #[.slice Av m cv, .map (some g1), .map (some g2)] 47)).alloc (.cells #[.int .u64 s.tr, .int .u64 s.id, .int .u64 s.par, .string s.svc, .string s.op, .int .i64 s.st, .int .i64 s.du, .int .i64 s.stt, .slice s.a.1 s.a.2.1 s.a.2.2, .slice s.e.1 s.e.2.1 s.e.2.2, .slice s.l.1 s.l.2.1 s.l.2.2] 38)) = w1 at HB K1 K2 HM ⊢
  generalize (Value.agg #[.int .u64 s.tr, .int .u64 s.id, .int .u64 s.par, .string s.svc, .string s.op, .int .i64 s.st, .int .i64 s.du, .int .i64 s.stt, .slice s.a.1 s.a.2.1 s.a.2.2, .slice s.e.1 s.e.2.1 s.e.2.2, .slice s.l.1 s.l.2.1 s.l.2.2]) = junk1
  have y1 : w1.cell? ⟨w.heap.size, 1, none⟩ = some (.map (some g1)) := (blk_cell K1.out 1).trans rfl
  have y2 : w1.cell? ⟨w.heap.size + 1, 2, none⟩ = some (.int .u64 s.par) := (blk_cell K2.out 2).trans rfl
  have hlk := run_look (mkey_int .u64) Try.underlying44 Try.underlying33 _ w1 (Try.zeroValue38 w1) HM.out HMO.out s.par
  rw [byId_isSome] at hlk
  cases hh2 : hasId U s.par with
  | true =>
    obtain ⟨s2, hs2⟩ := byId_get hh2
    rw [hh2, hs2, Option.getD_some, arr_S] at hlk
    rw [hh2] at HR1 HR2
    have hz := below_alloc (Below.refl w1.heap.size w1) (.cells (encS s2).toArray 38)
    have HBz := Lib.hid (below_step HB.out hz)
    have KZ := Lib.hid (block_below K2.out hz)
    rw [arr_S] at HBz KZ
    clear hz hs2 hh2
    go_upto_region 2 with (fail)
    clear hlk y1 y2
    generalize (w1.alloc (.cells #[.int .u64 s2.tr, .int .u64 s2.id, .int .u64 s2.par, .string s2.svc, .string s2.op, .int .i64 s2.st, .int .i64 s2.du, .int .i64 s2.stt, .slice s2.a.1 s2.a.2.1 s2.a.2.2, .slice s2.e.1 s2.e.2.1 s2.e.2.2, .slice s2.l.1 s2.l.2.1 s2.l.2.2] 38)) = w2 at HBz KZ ⊢
    have y2 : w2.cell? ⟨w.heap.size + 1, 2, none⟩ = some (.int .u64 s.par) := (blk_cell KZ.out 2).trans rfl
    by_cases h0 : s.par = 0
    · have e1 : (s.par == 0) = true := beq_iff_eq.2 h0
      have e2 : (s.par != 0) = false := by simp [h0]
      rw [e1] at HR1
      rw [e2] at HR2
      clear h0
      go_wp2
      go_ret2
      exact ⟨by rw [← HR1.out, ← HR2.out]; rfl, HBz.out⟩
    · have e1 : (s.par == 0) = false := beq_eq_false_iff_ne.2 h0
      have e2 : (s.par != 0) = true := bne_iff_ne.2 h0
      rw [e1] at HR1
      rw [e2] at HR2
      clear h0
      go_wp2
      go_ret2
      exact ⟨by rw [← HR1.out, ← HR2.out]; rfl, HBz.out⟩
  | false =>
    rw [hh2, byId_no hh2, Option.getD_none] at hlk
    rw [hh2] at HR1 HR2
    have hz := below_alloc (Below.refl w1.heap.size w1) (.cells #[(.int .u64 0), (.int .u64 0), (.int .u64 0), (.string ⟨#[]⟩), (.string ⟨#[]⟩), (.int .i64 0), (.int .i64 0), (.int .i64 0), (.slice none 0 0), (.slice none 0 0), (.slice none 0 0)] 38)
    have HBz := Lib.hid (below_step HB.out hz)
    have KZ := Lib.hid (block_below K2.out hz)
    clear hz hh2
    go_upto_region 2 with (fail)
    clear hlk y1 y2
    generalize (w1.alloc (.cells #[(.int .u64 0), (.int .u64 0), (.int .u64 0), (.string ⟨#[]⟩), (.string ⟨#[]⟩), (.int .i64 0), (.int .i64 0), (.int .i64 0), (.slice none 0 0), (.slice none 0 0), (.slice none 0 0)] 38)) = w2 at HBz KZ ⊢
    have y2 : w2.cell? ⟨w.heap.size + 1, 2, none⟩ = some (.int .u64 s.par) := (blk_cell KZ.out 2).trans rfl
    by_cases h0 : s.par = 0
    · have e1 : (s.par == 0) = true := beq_iff_eq.2 h0
      have e2 : (s.par != 0) = false := by simp [h0]
      rw [e1] at HR1
      rw [e2] at HR2
      clear h0
      go_wp2
      go_ret2
      exact ⟨by rw [← HR1.out, ← HR2.out]; rfl, HBz.out⟩
    · have e1 : (s.par == 0) = false := beq_eq_false_iff_ne.2 h0
      have e2 : (s.par != 0) = true := bne_iff_ne.2 h0
      rw [e1] at HR1
      rw [e2] at HR2
      clear h0
      go_wp2
      go_ret2
      exact ⟨by rw [← HR1.out, ← HR2.out]; rfl, HBz.out⟩

end Go.Proofs.Ytoigebnhnkdbbaa.Tr
