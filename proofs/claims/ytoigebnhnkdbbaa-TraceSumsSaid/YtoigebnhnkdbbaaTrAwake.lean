/- cambiumlaw26.awake, by hand. -/
import Derived.Test.YtoigebnhnkdbbaaTrSum
namespace Go.Proofs.Ytoigebnhnkdbbaa.Tr
open Go.RowKit Go.Proofs.YtoigebnhnkdbbaaW.PrintWords Go.Proofs.YtoigebnhnkdbbaaW.PrintLast Go.Proofs.YtoigebnhnkdbbaaW.PrintMore Go.Proofs.Ytoigebnhnkdbbaa.Math Go.Proofs.Ytoigebnhnkdbbaa.PAll Go.Proofs.Ytoigebnhnkdbbaa.MapG
set_option linter.unusedVariables false
set_option linter.unusedSimpArgs false

theorem flat_get : ∀ (L : List Sp) (j : Nat) (p : Sp) (q : Nat), L[j]? = some p → q < 11 → (L.flatMap encS)[j * 11 + q]? = (encS p)[q]?
  | [], j, p, q, h, _ => by simp at h
  | a :: L, 0, p, q, h, hq => by
    simp at h
    subst h
    rw [List.flatMap_cons, List.getElem?_append_left (by rw [encS_len]; omega)]
    simp
  | a :: L, j + 1, p, q, h, hq => by
    rw [List.flatMap_cons, List.getElem?_append_right (by rw [encS_len]; omega), encS_len, show (j + 1) * 11 + q - 11 = j * 11 + q by omega]
    exact flat_get L j p q (by simpa using h) hq
theorem flat_len (L : List Sp) : (L.flatMap encS).length = L.length * 11 := by
  induction L with
  | nil => rfl
  | cons a L ih => rw [List.flatMap_cons, List.length_append, ih, encS_len, List.length_cons]; omega
/-- A row laid as a literal. -/
theorem C_flat {w : World} {g : Nat} (L : List Sp) (hn : L.length ≤ 1000000) (h : w.heap[g]? = some (.cells (L.flatMap encS).toArray 38 (0, 0))) : Kd.C kS w (some ⟨g, 0, none⟩) L.length L :=
  (Kd.R_reads' (row_close (base := g) (c := L.length) rfl (Nat.le_refl _) h (Nat.le_refl _) (by unfold maxLen; omega) (by simpa using flat_len L) (fun j p hj q hq => by rw [List.getElem?_toArray]; exact flat_get L j p q hj hq))).2.2

def wa : Sp := ⟨0, 4, 9, ⟨#[]⟩, ⟨#[]⟩, 7, 0, 0, (none, 0, 0), (none, 0, 0), (none, 0, 0)⟩
def wb : Sp := ⟨0, 3, 2, ⟨#[]⟩, ⟨#[]⟩, 0, 0, 0, (none, 0, 0), (none, 0, 0), (none, 0, 0)⟩
def wc : Sp := ⟨0, 1, 0, ⟨#[]⟩, ⟨#[]⟩, 0, 0, 0, (none, 0, 0), (none, 0, 0), (none, 0, 0)⟩
def wd : Sp := ⟨0, 2, 1, ⟨#[]⟩, ⟨#[]⟩, 0, 0, 0, (none, 0, 0), (none, 0, 0), (none, 0, 0)⟩
def we : Sp := ⟨0, 1, 0, ⟨#[97]⟩, ⟨#[]⟩, 3, 4, 2, (none, 0, 0), (none, 0, 0), (none, 0, 0)⟩
theorem asm4 : asm (cnt [wa, wb, wc, wd]) = [⟨wc, 0, false⟩, ⟨wd, 1, false⟩, ⟨wb, 2, false⟩, ⟨wa, 0, true⟩] := rfl
theorem sum1_ : sumS [we] = ⟨1, 1, 3, 7, 1⟩ := rfl
theorem long1_ : long (cnt [wc]) = [wc] := rfl
theorem sml_e : ∀ s ∈ [we], Sml s := by
  intro s hs
  rw [List.mem_singleton.1 hs]
  unfold Sml we
  decide
theorem sml_c : ∀ s ∈ [wc], Sml s := by
  intro s hs
  rw [List.mem_singleton.1 hs]
  unfold Sml wc
  decide

set_option maxHeartbeats 4000000 in
set_option maxRecDepth 100000 in
theorem awake_calls (w : World) : Calls Try.prog 7 #[] w fun e w' => e = .returned (.bool true) ∧ Below w.heap.size w w' := by
  have hz1 := below_alloc (Below.refl w.heap.size w) (.cells ([wa, wb, wc, wd].flatMap encS).toArray 38)
  have hc1 := assemble_calls (some ⟨w.heap.size, 0, none⟩) 4 [wa, wb, wc, wd] (w.alloc (.cells ([wa, wb, wc, wd].flatMap encS).toArray 38)) (C_flat [wa, wb, wc, wd] (by simp) (heap_alloc_new w _)) (Nat.le_refl _) (by simp)
  rw [asm4, show ([wa, wb, wc, wd].flatMap encS).toArray = #[.int .u64 0, .int .u64 4, .int .u64 9, .string ⟨#[]⟩, .string ⟨#[]⟩, .int .i64 7, .int .i64 0, .int .i64 0, .slice none 0 0, .slice none 0 0, .slice none 0 0, .int .u64 0, .int .u64 3, .int .u64 2, .string ⟨#[]⟩, .string ⟨#[]⟩, .int .i64 0, .int .i64 0, .int .i64 0, .slice none 0 0, .slice none 0 0, .slice none 0 0, .int .u64 0, .int .u64 1, .int .u64 0, .string ⟨#[]⟩, .string ⟨#[]⟩, .int .i64 0, .int .i64 0, .int .i64 0, .slice none 0 0, .slice none 0 0, .slice none 0 0, .int .u64 0, .int .u64 2, .int .u64 1, .string ⟨#[]⟩, .string ⟨#[]⟩, .int .i64 0, .int .i64 0, .int .i64 0, .slice none 0 0, .slice none 0 0, .slice none 0 0] from rfl] at hc1
  rw [show ([wa, wb, wc, wd].flatMap encS).toArray = #[.int .u64 0, .int .u64 4, .int .u64 9, .string ⟨#[]⟩, .string ⟨#[]⟩, .int .i64 7, .int .i64 0, .int .i64 0, .slice none 0 0, .slice none 0 0, .slice none 0 0, .int .u64 0, .int .u64 3, .int .u64 2, .string ⟨#[]⟩, .string ⟨#[]⟩, .int .i64 0, .int .i64 0, .int .i64 0, .slice none 0 0, .slice none 0 0, .slice none 0 0, .int .u64 0, .int .u64 1, .int .u64 0, .string ⟨#[]⟩, .string ⟨#[]⟩, .int .i64 0, .int .i64 0, .int .i64 0, .slice none 0 0, .slice none 0 0, .slice none 0 0, .int .u64 0, .int .u64 2, .int .u64 1, .string ⟨#[]⟩, .string ⟨#[]⟩, .int .i64 0, .int .i64 0, .int .i64 0, .slice none 0 0, .slice none 0 0, .slice none 0 0] from rfl] at hz1
  have HC1 := Lib.hid hc1
  have HB1 := Lib.hid hz1
  clear hc1 hz1
  go_enter Try.func7, Try.ntmps7
  go_wp2_with fail
  generalize (w.alloc (.cells #[.int .u64 0, .int .u64 4, .int .u64 9, .string ⟨#[]⟩, .string ⟨#[]⟩, .int .i64 7, .int .i64 0, .int .i64 0, .slice none 0 0, .slice none 0 0, .slice none 0 0, .int .u64 0, .int .u64 3, .int .u64 2, .string ⟨#[]⟩, .string ⟨#[]⟩, .int .i64 0, .int .i64 0, .int .i64 0, .slice none 0 0, .slice none 0 0, .slice none 0 0, .int .u64 0, .int .u64 1, .int .u64 0, .string ⟨#[]⟩, .string ⟨#[]⟩, .int .i64 0, .int .i64 0, .int .i64 0, .slice none 0 0, .slice none 0 0, .slice none 0 0, .int .u64 0, .int .u64 2, .int .u64 1, .string ⟨#[]⟩, .string ⟨#[]⟩, .int .i64 0, .int .i64 0, .int .i64 0, .slice none 0 0, .slice none 0 0, .slice none 0 0] 38)) = w1 at HC1 HB1 ⊢
  refine HC1.out.mono ?_
  rintro e w2 ⟨v2, rfl, hr2, hb2⟩
  obtain ⟨ad, c2, rfl⟩ := Kd.R_slice1 hr2 (by simp)
  have HR2 := Lib.hid (Kd.R_reads' hr2).2.2
  have HB2 := Lib.hid (below_step HB1.out hb2)
  clear hr2 hb2 HC1 HB1
  have hz3 := below_alloc (Below.refl w2.heap.size w2) (.cells ([we].flatMap encS).toArray 38)
  have hc3 := sum_calls (some ⟨w2.heap.size, 0, none⟩) 1 [we] (w2.alloc (.cells ([we].flatMap encS).toArray 38)) (C_flat [we] (by simp) (heap_alloc_new w2 _)) (Nat.le_refl _) (by simp) sml_e
  rw [sum1_, show ([we].flatMap encS).toArray = #[.int .u64 0, .int .u64 1, .int .u64 0, .string ⟨#[97]⟩, .string ⟨#[]⟩, .int .i64 3, .int .i64 4, .int .i64 2, .slice none 0 0, .slice none 0 0, .slice none 0 0] from rfl] at hc3
  rw [show ([we].flatMap encS).toArray = #[.int .u64 0, .int .u64 1, .int .u64 0, .string ⟨#[97]⟩, .string ⟨#[]⟩, .int .i64 3, .int .i64 4, .int .i64 2, .slice none 0 0, .slice none 0 0, .slice none 0 0] from rfl] at hz3
  have HC3 := Lib.hid hc3
  have HB3 := Lib.hid (below_step HB2.out hz3)
  have HR3 := Lib.hid (Kd.C_below HR2.out hz3)
  clear hc3 hz3 HR2 HB2
  go_wp2_with fail
  generalize (w2.alloc (.cells #[.int .u64 0, .int .u64 1, .int .u64 0, .string ⟨#[97]⟩, .string ⟨#[]⟩, .int .i64 3, .int .i64 4, .int .i64 2, .slice none 0 0, .slice none 0 0, .slice none 0 0] 38)) = w3 at HC3 HB3 HR3 ⊢
  refine HC3.out.mono ?_
  rintro e w4 ⟨rfl, hb4⟩
  have HB4 := Lib.hid (below_step HB3.out hb4)
  have HR4 := Lib.hid (Kd.C_below HR3.out hb4)
  clear hb4 HC3 HB3 HR3
  have hz5 := below_alloc (Below.refl w4.heap.size w4) (.cells #[.int .i64 1, .int .i64 1, .int .i64 3, .int .i64 7, .int .i64 1] 29)
  have HB5 := Lib.hid (below_step HB4.out hz5)
  have HR5 := Lib.hid (Kd.C_below HR4.out hz5)
  have HK5 := Lib.hid (heap_alloc_new w4 (.cells #[.int .i64 1, .int .i64 1, .int .i64 3, .int .i64 7, .int .i64 1] 29))
  clear hz5 HR4 HB4
  go_upto_region 3 with (fail)
  generalize (w4.alloc (.cells #[.int .i64 1, .int .i64 1, .int .i64 3, .int .i64 7, .int .i64 1] 29)) = w5 at HB5 HR5 HK5 ⊢
  obtain ⟨ad0, he0, _, p1, _⟩ := at_L HR5.out (k := 0) (x := ⟨wc, 0, false⟩) rfl
  obtain ⟨ad2, he2, _, _, _, _, _, _, _, _, _, _, _, p2, _⟩ := at_L HR5.out (k := 2) (x := ⟨wb, 2, false⟩) rfl
  obtain ⟨ad3, he3, _, _, _, _, _, _, _, _, _, _, _, _, p3⟩ := at_L HR5.out (k := 3) (x := ⟨wa, 0, true⟩) rfl
  injection he0 with he0
  injection he2 with he2
  injection he3 with he3
  subst he0
  subst he2
  subst he3
  have ea : ad.add (0 * 13) = ad := by simp [Addr.add]
  rw [ea] at p1
  change w5.cell? ⟨ad.block, ad.off + 1, none⟩ = some (.int .u64 1) at p1
  change w5.cell? ⟨ad.block, ad.off + 26 + 11, none⟩ = some (.int .i64 2) at p2
  change w5.cell? ⟨ad.block, ad.off + 39 + 12, none⟩ = some (.bool true) at p3
  have s0 : w5.cell? ⟨w4.heap.size, 0, none⟩ = some (.int .i64 1) := (blk_cell HK5.out 0).trans rfl
  have s1 : w5.cell? ⟨w4.heap.size, 1, none⟩ = some (.int .i64 1) := (blk_cell HK5.out 1).trans rfl
  have s3 : w5.cell? ⟨w4.heap.size, 3, none⟩ = some (.int .i64 7) := (blk_cell HK5.out 3).trans rfl
  have hz6 := below_alloc (Below.refl w5.heap.size w5) (.cells ([wc].flatMap encS).toArray 38)
  have hc6 := longest_calls (some ⟨w5.heap.size, 0, none⟩) 1 [wc] (w5.alloc (.cells ([wc].flatMap encS).toArray 38)) (C_flat [wc] (by simp) (heap_alloc_new w5 _)) (Nat.le_refl _) (by simp) sml_c
  rw [long1_, show ([wc].flatMap encS).toArray = #[.int .u64 0, .int .u64 1, .int .u64 0, .string ⟨#[]⟩, .string ⟨#[]⟩, .int .i64 0, .int .i64 0, .int .i64 0, .slice none 0 0, .slice none 0 0, .slice none 0 0] from rfl] at hc6
  rw [show ([wc].flatMap encS).toArray = #[.int .u64 0, .int .u64 1, .int .u64 0, .string ⟨#[]⟩, .string ⟨#[]⟩, .int .i64 0, .int .i64 0, .int .i64 0, .slice none 0 0, .slice none 0 0, .slice none 0 0] from rfl] at hz6
  rw [show [wc].length = 1 from rfl] at hc6
  have HC6 := Lib.hid hc6
  have HB6 := Lib.hid (below_step HB5.out hz6)
  clear hc6 hz6 ea HR5 HK5 HB5
  go_wp2_with fail
  generalize (w5.alloc (.cells #[.int .u64 0, .int .u64 1, .int .u64 0, .string ⟨#[]⟩, .string ⟨#[]⟩, .int .i64 0, .int .i64 0, .int .i64 0, .slice none 0 0, .slice none 0 0, .slice none 0 0] 38)) = w6 at HC6 HB6 ⊢
  refine HC6.out.mono ?_
  rintro e w7 ⟨v7, rfl, hr7, hb7⟩
  obtain ⟨A7, c7, rfl⟩ := Kd.R_slice hr7
  have HB7 := Lib.hid (below_step HB6.out hb7)
  clear hr7 hb7 HC6 HB6
  go_wp2
  go_ret
  exact ⟨rfl, HB7.out⟩

end Go.Proofs.Ytoigebnhnkdbbaa.Tr
