/- trace.last (chapter 26), by hand. -/
import Derived.Test.YtoigebnhnkdbbaaTrMax
import Derived.Laws.ResultCell
namespace Go.Proofs.Ytoigebnhnkdbbaa.Tr
open Go.RowKit Go.Proofs.YtoigebnhnkdbbaaW.PrintWords Go.Proofs.YtoigebnhnkdbbaaW.PrintLast Go.Proofs.YtoigebnhnkdbbaaW.PrintMore Go.Proofs.Ytoigebnhnkdbbaa.Math Go.Proofs.Ytoigebnhnkdbbaa.PAll Go.Proofs.Ytoigebnhnkdbbaa.MapG
open Go.ChangeMaps (setBlock)
set_option linter.unusedVariables false
set_option linter.unusedSimpArgs false

theorem results_row_tmp {P : Program} {fn : Func} {p u : Tmp} {ty : TypeId} (h : fn.results = #[.cell p ty, .tmp u]) (tmps : Array Value) (w : World) (g : Nat) (t : TypeId) (cs : Array Value) (fr : Nat × Nat) (d : TypeDesc)
    (hp : tmps.getD p undef = .pointer (some ⟨g, 0, none⟩)) (hg : w.heap[g]? = some (.cells cs t fr))
    (hu : P.underlying ty = some d) (hd : (match d with | .struct _ | .array _ _ => true | _ => false) = true) (hi : (P.info? ty).map (·.size) = some cs.size) :
    (results fn tmps).run P w = .ok (.tuple #[.agg cs, tmps.getD u undef]) w := by
  rw [results_cell_tmp h, hp]
  simp [asAddr, run_loadVar_row w g t ty cs fr d hg hu hd hi, Result.andThen]

set_option maxHeartbeats 2000000 in
set_option maxRecDepth 100000 in
theorem last_calls (A : Option Addr) (c : Nat) (l : List Sp) (w : World) (hr : Kd.C kS w A l.length l) (hl : l.length ≤ c) (hn : l.length ≤ 1000000) (hs : ∀ s ∈ l, Sml s) :
    Calls Try.prog 30 #[.slice A l.length c] w fun e w' => e = .returned (.tuple #[.agg (encS ((lastS l).getD zS)).toArray, .bool (lastS l).isSome]) ∧ Below w.heap.size w w' := by
  have hz := below_alloc (Below.refl w.heap.size w) (.cells (encS zS).toArray 38)
  have kz := heap_alloc_new w (.cells (encS zS).toArray 38)
  have hi : (Try.prog.info? 38).map (·.size) = some 11 := by kernel_rfl
  have HI := Lib.hid hi
  clear hi
  by_cases h0 : l = []
  · subst h0
    have HB := Lib.hid hz
    have KZ := Lib.hid kz
    rw [arr_Z] at HB KZ
    clear hz kz hr hl hn hs
    change Calls Try.prog 30 #[.slice A 0 c] w fun e w' => e = .returned (.tuple #[.agg (encS zS).toArray, .bool false]) ∧ Below w.heap.size w w'
    go_enter Try.func30, Try.ntmps30
    go_upto_region 1 with (fail)
    generalize (w.alloc (.cells #[.int .u64 0, .int .u64 0, .int .u64 0, .string ⟨#[]⟩, .string ⟨#[]⟩, .int .i64 0, .int .i64 0, .int .i64 0, .slice none 0 0, .slice none 0 0, .slice none 0 0] 38)) = w1 at HB KZ ⊢
    obtain ⟨y0, y1, y2, y3, y4, y5, y6, y7, y8, y9, y10⟩ := blkS (s := zS) KZ.out
    obtain ⟨f0, f1, f2, f3, f4, f5, f6, f7, f8, f9, f10⟩ := blkF KZ.out
    go_wp2
    exact bodyPost_ret (v := .tuple _) (results_row_tmp rfl _ _ w.heap.size 38 _ (0, 0) _ rfl (putS_same (m := zS) zS KZ.out) Try.underlying38 rfl HI.out) rfl ⟨rfl, below_putS zS HB.out (Nat.le_refl _)⟩
  · have hp : 0 < l.length := List.length_pos_iff.2 h0
    have hm := maxf_calls A c l (w.alloc (.cells (encS zS).toArray 38)) (Kd.C_below hr hz) hl hp hn hs
    have HMX := Lib.hid hm
    have HB := Lib.hid hz
    have KZ := Lib.hid kz
    rw [arr_Z] at HB KZ HMX
    have q1 : ((l.length : Int) == 0) = false := beq_eq_false_iff_ne.2 (by omega)
    clear hz kz hr hl hn hs h0 hm hp
    go_enter Try.func30, Try.ntmps30
    go_upto_region 1 with (fail)
    generalize (w.alloc (.cells #[.int .u64 0, .int .u64 0, .int .u64 0, .string ⟨#[]⟩, .string ⟨#[]⟩, .int .i64 0, .int .i64 0, .int .i64 0, .slice none 0 0, .slice none 0 0, .slice none 0 0] 38)) = w1 at HB KZ HMX ⊢
    go_wp2_with fail
    refine HMX.out.mono ?_
    rintro e w2 ⟨m, hm, rfl, hb⟩
    have KZ2 := Lib.hid (block_below KZ.out hb)
    have HB2 := Lib.hid (below_step HB.out hb)
    have HLM := Lib.hid hm
    clear hm hb
    obtain ⟨y0, y1, y2, y3, y4, y5, y6, y7, y8, y9, y10⟩ := blkS (s := zS) KZ2.out
    obtain ⟨f0, f1, f2, f3, f4, f5, f6, f7, f8, f9, f10⟩ := blkF KZ2.out
    rw [arr_S m]
    go_wp2
    exact bodyPost_ret (v := .tuple _) (results_row_tmp rfl _ _ w.heap.size 38 _ (0, 0) _ rfl (putS_same (m := zS) m KZ2.out) Try.underlying38 rfl HI.out) rfl ⟨by rw [HLM.out]; rfl, below_putS m HB2.out (Nat.le_refl _)⟩

end Go.Proofs.Ytoigebnhnkdbbaa.Tr
