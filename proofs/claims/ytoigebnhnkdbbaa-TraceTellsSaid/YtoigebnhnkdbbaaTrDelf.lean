/- trace.Longest's closure, slices.Clone, slices.IndexFunc (chapter 26), by hand. -/
import Derived.Test.YtoigebnhnkdbbaaTrLast2
import Derived.Laws.CopyRow
namespace Go.Proofs.Ytoigebnhnkdbbaa.Tr
open Go.RowKit Go.Proofs.YtoigebnhnkdbbaaW.PrintWords Go.Proofs.YtoigebnhnkdbbaaW.PrintLast Go.Proofs.YtoigebnhnkdbbaaW.PrintMore Go.Proofs.Ytoigebnhnkdbbaa.Math Go.Proofs.Ytoigebnhnkdbbaa.PAll Go.Proofs.Ytoigebnhnkdbbaa.MapG
open Go.ChangeMaps (setBlock)
set_option linter.unusedVariables false
set_option linter.unusedSimpArgs false

/-- The family and its cell, as the closure reads them. -/
structure Fc (lo n : Nat) (w : World) (U C : List Sp) (v : Value) (g1 g2 : Nat) : Prop where
  fam : Fam lo n w U C v g1 g2
  fc : w.heap[n]? = some (.cells #[v, .map (some g1), .map (some g2)] 47 (0, 0))
theorem Fc.move {lo n : Nat} {w w1 : World} {U C : List Sp} {v : Value} {g1 g2 : Nat} (h : Fc lo n w U C v g1 g2) (hm : ∀ k, k ≤ n → w1.heap[k]? = w.heap[k]?) : Fc lo n w1 U C v g1 g2 :=
  ⟨h.fam.move (fun k _ hk => hm k (by omega)), (hm n (Nat.le_refl _)).trans h.fc⟩
theorem Fc.lt {lo n : Nat} {w : World} {U C : List Sp} {v : Value} {g1 g2 : Nat} (h : Fc lo n w U C v g1 g2) : n < w.heap.size := blk_lt h.fc
theorem Fc.next {lo n : Nat} {w w1 : World} {U C : List Sp} {v : Value} {g1 g2 : Nat} (h : Fc lo n w U C v g1 g2) (hb : Below w.heap.size w w1) : Fc lo n w1 U C v g1 g2 :=
  h.move fun k hk => hb.block k (Nat.lt_of_le_of_lt hk h.lt)

set_option maxHeartbeats 4000000 in
set_option maxRecDepth 100000 in
theorem isnt_calls {lo n g1 g2 : Nat} {U C : List Sp} {v : Value} {w : World} (hF : Fc lo n w U C v g1 g2) (hU : ∀ i, hasId U i = hasId C i) (s : Sp) :
    Calls Try.prog 29 #[.agg (encS s).toArray, .pointer (some ⟨n, 0, none⟩)] w fun e w' => e = .returned (.bool (!rootB C s)) ∧ Below w.heap.size w w' := by
  obtain ⟨Av, cv, rfl⟩ := Kd.R_slice hF.fam.row
  have hz := below_alloc (Below.refl w.heap.size w) (.cells (encS s).toArray 38)
  have HB := Lib.hid hz
  have KS := Lib.hid (heap_alloc_new w (.cells (encS s).toArray 38))
  have HF := Lib.hid (hF.next hz)
  have HU := Lib.hid hU
  rw [arr_S] at HB KS HF ⊢
  clear hz hF hU
  go_enter Try.func29, Try.ntmps29
  go_upto_region 1 with (fail)
  generalize (w.alloc (.cells #[.int .u64 s.tr, .int .u64 s.id, .int .u64 s.par, .string s.svc, .string s.op, .int .i64 s.st, .int .i64 s.du, .int .i64 s.stt, .slice s.a.1 s.a.2.1 s.a.2.2, .slice s.e.1 s.e.2.1 s.e.2.2, .slice s.l.1 s.l.2.1 s.l.2.2] 38)) = w1 at HB KS HF ⊢
  generalize (Value.agg #[.int .u64 s.tr, .int .u64 s.id, .int .u64 s.par, .string s.svc, .string s.op, .int .i64 s.st, .int .i64 s.du, .int .i64 s.stt, .slice s.a.1 s.a.2.1 s.a.2.2, .slice s.e.1 s.e.2.1 s.e.2.2, .slice s.l.1 s.l.2.1 s.l.2.2]) = junk1
  have y0 : w1.cell? ⟨n, 0, none⟩ = some (.slice Av C.length cv) := (blk_cell HF.out.fc 0).trans rfl
  have y1 : w1.cell? ⟨n, 1, none⟩ = some (.map (some g1)) := (blk_cell HF.out.fc 1).trans rfl
  have y2 : w1.cell? ⟨n, 2, none⟩ = some (.map (some g2)) := (blk_cell HF.out.fc 2).trans rfl
  obtain ⟨x0, x1, x2, x3, x4, x5, x6, x7, x8, x9, x10⟩ := blkS (s := s) KS.out
  have hroot := root_calls HF.out.fam (Nat.le_of_lt HF.out.lt) s
  rw [HU.out, arr_S] at hroot
  have HROOT := Lib.hid hroot
  clear hroot
  go_wp2_with fail
  refine HROOT.out.mono ?_
  rintro e w2 ⟨rfl, hb⟩
  have HB2 := Lib.hid (below_step HB.out hb)
  obtain ⟨r, hr⟩ : ∃ r, rootB C s = r := ⟨_, rfl⟩
  have hr2 : (s.par == 0 || !hasId C s.par) = r := hr
  rw [hr2]
  have HRB := Lib.hid hr
  clear hb hr hr2 y0 y1 y2 x0 x1 x2 x3 x4 x5 x6 x7 x8 x9 x10
  generalize (s.par != 0 && !hasId C s.par) = ob
  go_wp2
  go_ret
  exact ⟨by rw [HRB.out]; rfl, HB2.out⟩

set_option maxHeartbeats 2000000 in
theorem clone_calls (A : Option Addr) (c : Nat) (l : List Sp) (w : World) (hr : Kd.C kS w A l.length l) (hl : l.length ≤ c) (hn : l.length ≤ 1000000) :
    Calls Try.prog 28 #[.slice A l.length c] w fun e w' => ∃ v, e = .returned v ∧ Kd.R kS 38 w' w.heap.size (fun _ => True) v l ∧ Below w.heap.size w w' := by
  have q : ∀ (w : World) (a : Option Addr) (n c n' c' : Nat), (binOp .eql 22 (.slice a n c) (.slice none n' c')).run Try.prog w = .ok (.bool a.isNone) w := fun w a n c n' c' => Lib.run_eql_slice_nil w _ _ a n c n' c' Try.underlying22
  rcases A with _ | ad
  · have h0 : l = [] := by
      rcases Nat.eq_zero_or_pos l.length with h0 | h0
      · exact List.length_eq_zero_iff.1 h0
      · obtain ⟨ad, h, _⟩ := hr.2.2 h0
        cases h
    subst h0
    go_enter Try.func28, Try.ntmps28
    go_wp2
    go_ret
    exact ⟨_, rfl, Kd.R_nil _ _ _ _ _, Below.refl _ _⟩
  · have HR := Lib.hid hr
    have HL := Lib.hid hn
    clear hr hn
    go_enter Try.func28, Try.ntmps28
    go_wp2_with (first | ((with_reducible refine gate_dst (N := 5) rfl ?_); refine Kd.R_lit kS _ 38 ?hg (N := 5) ?hd (xs := ([] : List Sp)) (inner := []) (ok := fun _ => True) (okp := fun _ => True) ?hr ?hp (fun _ hk => hk) trivial (Below.refl _ _) (Nat.le_refl _) (by simp) ?_; (case hd => rfl); (case hg => rfl); (case hr => first | (go_simp; done) | (go_simp; rfl)); (case hp => exact (Reps.none _ _)); intro v1 w1 ho hb hg_ hnew_; clear hg_ hnew_; have HO := Lib.hid ho; have HB := Lib.hid hb; clear ho hb) | ((with_reducible refine gate_builtin (b := .append) (xs := #[.tmp 5, .tmp 6]) rfl ?_); at_builtin; refine Kd.R_append_rows kS (w0 := w) w.heap.size rfl (.tmp 5) (.tmp 6) 22 38 (.agg #[(.int .u64 0), (.int .u64 0), (.int .u64 0), (.string ⟨#[]⟩), (.string ⟨#[]⟩), (.int .i64 0), (.int .i64 0), (.int .i64 0), (.slice none 0 0), (.slice none 0 0), (.slice none 0 0)]) 152 rfl Try.underlying22 infoS rfl (by decide) (by omega) v1 [] l _ _ _ (fun _ => True) (fun _ => False) rfl rfl ?aO ?aR (fun _ _ h => h) (fun _ h => h.elim) ?aF ?aB ?aS ?aL ?_; (case aR => exact Kd.C_below HR.out HB.out); (case aB => exact HB.out); (case aF => exact (fun _ _ => trivial)); (case aO => exact HO.out); (case aS => exact below_size HB.out); (case aL => have := HL.out; simp; omega); intro v2 w2 ho hb hg hat; have HO2 := Lib.hid ho; have HB2 := Lib.hid hb; clear ho hb hg hat))
    go_ret
    exact ⟨_, rfl, by simpa using HO2.out, HB2.out⟩

/-- The first that is no root. -/
def firstNo (C : List Sp) : List Sp → Nat
  | [] => 0
  | s :: l => if rootB C s = true then firstNo C l + 1 else 0

set_option maxHeartbeats 4000000 in
set_option maxRecDepth 100000 in
theorem indexf_calls {lo n g1 g2 : Nat} {U C : List Sp} {v : Value} {w : World} (hF : Fc lo n w U C v g1 g2) (hU : ∀ i, hasId U i = hasId C i) (A : Option Addr) (c : Nat) (l : List Sp) (hr : Kd.C kS w A l.length l) (hl : l.length ≤ c) (hn : l.length ≤ 1000000) :
    Calls Try.prog 35 #[.slice A l.length c, .func (.func 29) #[] #[.pointer (some ⟨n, 0, none⟩)]] w fun e w' => ∃ i : Int, e = .returned (.int .i64 i) ∧ ((i = -1 ∧ ∀ s ∈ l, rootB C s = true) ∨ ∃ k : Nat, i = k ∧ k < l.length ∧ (∀ s ∈ l.take k, rootB C s = true) ∧ ∀ s, l[k]? = some s → rootB C s = false) ∧ Below w.heap.size w w' := by
  have HF := Lib.hid hF
  have HU := Lib.hid hU
  have HR := Lib.hid hr
  have HN := Lib.hid hn
  clear hF hU hr hn
  go_enter Try.func35, Try.ntmps35
  go_wp2
  go_loopw [5, 8] (fun _ i wr => ∃ k : Nat, k ≤ l.length ∧ i = .int .i64 k ∧ Hid (∀ s ∈ l.take k, rootB C s = true) ∧ Hid (Below w.heap.size w wr)) (fun _ i _ => l.length - (intOf i).toNat)
  case atStart => exact ⟨0, by omega, rfl, Lib.hid (fun s hs => by simp at hs), Lib.hid (Below.refl _ _)⟩
  case round =>
    obtain ⟨k, hk, rfl, HA, HB⟩ := hrel
    by_cases hlt : k < l.length
    · obtain ⟨s, hs⟩ : ∃ s, l[k]? = some s := ⟨_, List.getElem?_eq_getElem hlt⟩
      obtain ⟨ad, rfl, x0, x1, x2, x3, x4, x5, x6, x7, x8, x9, x10⟩ := at_S (Kd.C_below HR.out HB.out) hs
      have HTk := Lib.hid (show l.take (k + 1) = l.take k ++ [s] by
        obtain ⟨hk2, e⟩ := List.getElem?_eq_some_iff.1 hs
        rw [List.take_succ_eq_append_getElem hk2, e])
      have q : (k : Int) < (l.length : Int) := by omega
      have HK := Lib.hid (show k + 1 ≤ l.length by omega)
      have HW := Lib.hid (show wrap64 ((k : Int) + 1) = ((k + 1 : Nat) : Int) by have := HN.out; unfold wrap64; omega)
      have HGS := Lib.hid hs
      have hcall := isnt_calls (HF.out.next HB.out) HU.out s
      rw [arr_S] at hcall
      have HCALL := Lib.hid hcall
      clear hs hlt hk hcall
      go_wp2_with fail
      refine HCALL.out.mono ?_
      rintro e w1 ⟨rfl, hb⟩
      have HB1 := Lib.hid (below_step HB.out hb)
      clear hb x0 x1 x2 x3 x4 x5 x6 x7 x8 x9 x10
      cases hroot : rootB C s with
      | true =>
        have HRT := Lib.hid hroot
        clear hroot
        go_wp2
        go_roundw
        case rel => exact ⟨k + 1, HK.out, by rw [HW.out], Lib.hid (by rw [HTk.out]; intro y hy; rcases List.mem_append.1 hy with hy | hy; exact HA.out y hy; rw [List.mem_singleton.1 hy]; exact HRT.out), HB1⟩
        case measure => exact meas_up HN.out HK.out
      | false =>
        have HRT := Lib.hid hroot
        clear hroot
        go_wp2
        go_ret
        exact ⟨k, rfl, .inr ⟨k, rfl, by have := HK.out; omega, HA.out, fun y hy => by rw [HGS.out] at hy; injection hy with hy; rw [← hy]; exact HRT.out⟩, HB1.out⟩
    · have hkl : k = l.length := by omega
      subst hkl
      have q : decide ((l.length : Int) < (l.length : Int)) = false := decide_eq_false (by omega)
      rw [List.take_length] at HA
      clear hlt hk
      go_wp2
      go_ret
      exact ⟨-1, rfl, .inl ⟨rfl, HA.out⟩, HB.out⟩

end Go.Proofs.Ytoigebnhnkdbbaa.Tr

namespace Go.Proofs.Ytoigebnhnkdbbaa.Tr
open Go.RowKit Go.Proofs.YtoigebnhnkdbbaaW.PrintWords Go.Proofs.YtoigebnhnkdbbaaW.PrintLast Go.Proofs.YtoigebnhnkdbbaaW.PrintMore Go.Proofs.Ytoigebnhnkdbbaa.Math Go.Proofs.Ytoigebnhnkdbbaa.PAll Go.Proofs.Ytoigebnhnkdbbaa.MapG
set_option linter.unusedVariables false
set_option linter.unusedSimpArgs false

/-- A span stored at a place. -/
def putA (w : World) (a : Addr) (s : Sp) : World := (((((((((((w.setCell a (.int .u64 s.tr)).setCell ⟨a.block, a.off + 1, none⟩ (.int .u64 s.id)).setCell ⟨a.block, a.off + 2, none⟩ (.int .u64 s.par)).setCell ⟨a.block, a.off + 3, none⟩ (.string s.svc)).setCell ⟨a.block, a.off + 4, none⟩ (.string s.op)).setCell ⟨a.block, a.off + 5, none⟩ (.int .i64 s.st)).setCell ⟨a.block, a.off + 6, none⟩ (.int .i64 s.du)).setCell ⟨a.block, a.off + 7, none⟩ (.int .i64 s.stt)).setCell ⟨a.block, a.off + 8, none⟩ (.slice s.a.1 s.a.2.1 s.a.2.2)).setCell ⟨a.block, a.off + 9, none⟩ (.slice s.e.1 s.e.2.1 s.e.2.2)).setCell ⟨a.block, a.off + 10, none⟩ (.slice s.l.1 s.l.2.1 s.l.2.2))
def arrA (cur : Array Value) (o : Nat) (s : Sp) : Array Value := (((((((((((cur.setIfInBounds (o + 0) (.int .u64 s.tr)).setIfInBounds (o + 1) (.int .u64 s.id)).setIfInBounds (o + 2) (.int .u64 s.par)).setIfInBounds (o + 3) (.string s.svc)).setIfInBounds (o + 4) (.string s.op)).setIfInBounds (o + 5) (.int .i64 s.st)).setIfInBounds (o + 6) (.int .i64 s.du)).setIfInBounds (o + 7) (.int .i64 s.stt)).setIfInBounds (o + 8) (.slice s.a.1 s.a.2.1 s.a.2.2)).setIfInBounds (o + 9) (.slice s.e.1 s.e.2.1 s.e.2.2)).setIfInBounds (o + 10) (.slice s.l.1 s.l.2.1 s.l.2.2))
theorem putA_far {w : World} {a : Addr} {k : Nat} (s : Sp) (h : k ≠ a.block) : (putA w a s).heap[k]? = w.heap[k]? := by
  unfold putA
  rw [Below.heap_setCell _ ⟨a.block, a.off + 10, none⟩ _ _ h, Below.heap_setCell _ ⟨a.block, a.off + 9, none⟩ _ _ h, Below.heap_setCell _ ⟨a.block, a.off + 8, none⟩ _ _ h, Below.heap_setCell _ ⟨a.block, a.off + 7, none⟩ _ _ h, Below.heap_setCell _ ⟨a.block, a.off + 6, none⟩ _ _ h, Below.heap_setCell _ ⟨a.block, a.off + 5, none⟩ _ _ h, Below.heap_setCell _ ⟨a.block, a.off + 4, none⟩ _ _ h, Below.heap_setCell _ ⟨a.block, a.off + 3, none⟩ _ _ h, Below.heap_setCell _ ⟨a.block, a.off + 2, none⟩ _ _ h, Below.heap_setCell _ ⟨a.block, a.off + 1, none⟩ _ _ h, Below.heap_setCell _ a _ _ h]
theorem putA_size (w : World) (a : Addr) (s : Sp) : (putA w a s).heap.size = w.heap.size := by
  unfold putA
  simp only [World.size_setCell]
theorem below_putA {B : Nat} {w0 w : World} {a : Addr} (s : Sp) (h : Below B w0 w) (hg : B ≤ a.block) : Below B w0 (putA w a s) :=
  (((((((((((h.setCell hg _).setCell (p := ⟨a.block, a.off + 1, none⟩) hg _).setCell (p := ⟨a.block, a.off + 2, none⟩) hg _).setCell (p := ⟨a.block, a.off + 3, none⟩) hg _).setCell (p := ⟨a.block, a.off + 4, none⟩) hg _).setCell (p := ⟨a.block, a.off + 5, none⟩) hg _).setCell (p := ⟨a.block, a.off + 6, none⟩) hg _).setCell (p := ⟨a.block, a.off + 7, none⟩) hg _).setCell (p := ⟨a.block, a.off + 8, none⟩) hg _).setCell (p := ⟨a.block, a.off + 9, none⟩) hg _).setCell (p := ⟨a.block, a.off + 10, none⟩) hg _)
theorem putA_same {w : World} {g o : Nat} {cur : Array Value} {t : TypeId} (s : Sp) (h : w.heap[g]? = some (.cells cur t (0, 0))) : (putA w ⟨g, o, none⟩ s).heap[g]? = some (.cells (arrA cur o s) t (0, 0)) := by
  have h' := blk_set (blk_set (blk_set (blk_set (blk_set (blk_set (blk_set (blk_set (blk_set (blk_set (blk_set (h) (o + 0) (.int .u64 s.tr)) (o + 1) (.int .u64 s.id)) (o + 2) (.int .u64 s.par)) (o + 3) (.string s.svc)) (o + 4) (.string s.op)) (o + 5) (.int .i64 s.st)) (o + 6) (.int .i64 s.du)) (o + 7) (.int .i64 s.stt)) (o + 8) (.slice s.a.1 s.a.2.1 s.a.2.2)) (o + 9) (.slice s.e.1 s.e.2.1 s.e.2.2)) (o + 10) (.slice s.l.1 s.l.2.1 s.l.2.2)
  unfold putA arrA
  exact h'
theorem arrA_size (cur : Array Value) (o : Nat) (s : Sp) : (arrA cur o s).size = cur.size := by
  unfold arrA
  simp only [Array.size_setIfInBounds]
theorem arrA_ne {cur : Array Value} {o t : Nat} (s : Sp) (h : t < o ∨ o + 11 ≤ t) : (arrA cur o s)[t]? = cur[t]? := by
  unfold arrA
  iterate 11 rw [Array.getElem?_setIfInBounds_ne (by omega)]
theorem arrA_at {cur : Array Value} {o : Nat} (s : Sp) (h : o + 11 ≤ cur.size) (q : Nat) (hq : q < 11) : (arrA cur o s)[o + q]? = (encS s)[q]? := by
  have hc : q = 0 ∨ q = 1 ∨ q = 2 ∨ q = 3 ∨ q = 4 ∨ q = 5 ∨ q = 6 ∨ q = 7 ∨ q = 8 ∨ q = 9 ∨ q = 10 := by omega
  unfold arrA
  rcases hc with rfl | rfl | rfl | rfl | rfl | rfl | rfl | rfl | rfl | rfl | rfl
  · rw [Array.getElem?_setIfInBounds_ne (by omega)]; rw [Array.getElem?_setIfInBounds_ne (by omega)]; rw [Array.getElem?_setIfInBounds_ne (by omega)]; rw [Array.getElem?_setIfInBounds_ne (by omega)]; rw [Array.getElem?_setIfInBounds_ne (by omega)]; rw [Array.getElem?_setIfInBounds_ne (by omega)]; rw [Array.getElem?_setIfInBounds_ne (by omega)]; rw [Array.getElem?_setIfInBounds_ne (by omega)]; rw [Array.getElem?_setIfInBounds_ne (by omega)]; rw [Array.getElem?_setIfInBounds_ne (by omega)]; rw [Array.getElem?_setIfInBounds_self_of_lt (by first | omega | (simp only [Array.size_setIfInBounds]; omega))]; rfl
  · rw [Array.getElem?_setIfInBounds_ne (by omega)]; rw [Array.getElem?_setIfInBounds_ne (by omega)]; rw [Array.getElem?_setIfInBounds_ne (by omega)]; rw [Array.getElem?_setIfInBounds_ne (by omega)]; rw [Array.getElem?_setIfInBounds_ne (by omega)]; rw [Array.getElem?_setIfInBounds_ne (by omega)]; rw [Array.getElem?_setIfInBounds_ne (by omega)]; rw [Array.getElem?_setIfInBounds_ne (by omega)]; rw [Array.getElem?_setIfInBounds_ne (by omega)]; rw [Array.getElem?_setIfInBounds_self_of_lt (by first | omega | (simp only [Array.size_setIfInBounds]; omega))]; rfl
  · rw [Array.getElem?_setIfInBounds_ne (by omega)]; rw [Array.getElem?_setIfInBounds_ne (by omega)]; rw [Array.getElem?_setIfInBounds_ne (by omega)]; rw [Array.getElem?_setIfInBounds_ne (by omega)]; rw [Array.getElem?_setIfInBounds_ne (by omega)]; rw [Array.getElem?_setIfInBounds_ne (by omega)]; rw [Array.getElem?_setIfInBounds_ne (by omega)]; rw [Array.getElem?_setIfInBounds_ne (by omega)]; rw [Array.getElem?_setIfInBounds_self_of_lt (by first | omega | (simp only [Array.size_setIfInBounds]; omega))]; rfl
  · rw [Array.getElem?_setIfInBounds_ne (by omega)]; rw [Array.getElem?_setIfInBounds_ne (by omega)]; rw [Array.getElem?_setIfInBounds_ne (by omega)]; rw [Array.getElem?_setIfInBounds_ne (by omega)]; rw [Array.getElem?_setIfInBounds_ne (by omega)]; rw [Array.getElem?_setIfInBounds_ne (by omega)]; rw [Array.getElem?_setIfInBounds_ne (by omega)]; rw [Array.getElem?_setIfInBounds_self_of_lt (by first | omega | (simp only [Array.size_setIfInBounds]; omega))]; rfl
  · rw [Array.getElem?_setIfInBounds_ne (by omega)]; rw [Array.getElem?_setIfInBounds_ne (by omega)]; rw [Array.getElem?_setIfInBounds_ne (by omega)]; rw [Array.getElem?_setIfInBounds_ne (by omega)]; rw [Array.getElem?_setIfInBounds_ne (by omega)]; rw [Array.getElem?_setIfInBounds_ne (by omega)]; rw [Array.getElem?_setIfInBounds_self_of_lt (by first | omega | (simp only [Array.size_setIfInBounds]; omega))]; rfl
  · rw [Array.getElem?_setIfInBounds_ne (by omega)]; rw [Array.getElem?_setIfInBounds_ne (by omega)]; rw [Array.getElem?_setIfInBounds_ne (by omega)]; rw [Array.getElem?_setIfInBounds_ne (by omega)]; rw [Array.getElem?_setIfInBounds_ne (by omega)]; rw [Array.getElem?_setIfInBounds_self_of_lt (by first | omega | (simp only [Array.size_setIfInBounds]; omega))]; rfl
  · rw [Array.getElem?_setIfInBounds_ne (by omega)]; rw [Array.getElem?_setIfInBounds_ne (by omega)]; rw [Array.getElem?_setIfInBounds_ne (by omega)]; rw [Array.getElem?_setIfInBounds_ne (by omega)]; rw [Array.getElem?_setIfInBounds_self_of_lt (by first | omega | (simp only [Array.size_setIfInBounds]; omega))]; rfl
  · rw [Array.getElem?_setIfInBounds_ne (by omega)]; rw [Array.getElem?_setIfInBounds_ne (by omega)]; rw [Array.getElem?_setIfInBounds_ne (by omega)]; rw [Array.getElem?_setIfInBounds_self_of_lt (by first | omega | (simp only [Array.size_setIfInBounds]; omega))]; rfl
  · rw [Array.getElem?_setIfInBounds_ne (by omega)]; rw [Array.getElem?_setIfInBounds_ne (by omega)]; rw [Array.getElem?_setIfInBounds_self_of_lt (by first | omega | (simp only [Array.size_setIfInBounds]; omega))]; rfl
  · rw [Array.getElem?_setIfInBounds_ne (by omega)]; rw [Array.getElem?_setIfInBounds_self_of_lt (by first | omega | (simp only [Array.size_setIfInBounds]; omega))]; rfl
  · rw [Array.getElem?_setIfInBounds_self_of_lt (by first | omega | (simp only [Array.size_setIfInBounds]; omega))]; rfl

theorem add_at (g i : Nat) : (⟨g, 0, none⟩ : Addr).add i = ⟨g, i, none⟩ := by unfold Addr.add; split <;> simp_all
/-- A row whose block is known. -/
theorem row_open {w : World} {base c : Nat} {ad : Addr} {n : Nat} {ys : List Sp} (h : Kd.R kS 38 w base (fun _ => True) (.slice (some ad) n c) ys) (h0 : 0 < ys.length) : ∃ g cur, ad = ⟨g, 0, none⟩ ∧ n = ys.length ∧ base ≤ g ∧ w.heap[g]? = some (.cells cur 38 (0, 0)) ∧ ys.length ≤ c ∧ c ≤ maxLen ∧ cur.size = c * 11 ∧ ∀ j p, ys[j]? = some p → ((cur.toList.take (ys.length * 11)).drop (j * 11)).take 11 = encS p := by
  have hn := (Kd.R_reads' h).1
  obtain ⟨hok, inner, ⟨hl, ho⟩, hr⟩ := h
  rcases ho with ⟨h1, _⟩ | ⟨g, cap, cur, h1, hg, hh, hnc, hcm, hcs, ht⟩
  · cases h1
  · injection h1 with e1 e2 e3
    injection e1 with e1
    subst e3
    exact ⟨g, cur, e1, hn, hg, hh, hnc, hcm, hcs, fun j p hj => by
      have := hr.2 j p hj
      rw [← ht] at this
      exact this⟩
theorem row_close {w : World} {base c : Nat} {g n : Nat} {cur : Array Value} {ys : List Sp} (hn : n = ys.length) (hg : base ≤ g) (hh : w.heap[g]? = some (.cells cur 38 (0, 0))) (hnc : ys.length ≤ c) (hcm : c ≤ maxLen) (hcs : cur.size = c * 11) (hr : ∀ j p, ys[j]? = some p → ∀ q, q < 11 → cur[j * 11 + q]? = (encS p)[q]?) : Kd.R kS 38 w base (fun _ => True) (.slice (some ⟨g, 0, none⟩) n c) ys := by
  subst hn
  have hle : ys.length * 11 ≤ cur.size := by rw [hcs]; exact Nat.mul_le_mul_right 11 hnc
  have hlen : (cur.toList.take (ys.length * 11)).length = ys.length * 11 := by
    rw [List.length_take]
    show min (ys.length * 11) cur.size = ys.length * 11
    exact Nat.min_eq_left hle
  refine ⟨fun _ _ => trivial, cur.toList.take (ys.length * 11), ⟨hlen, .inr ⟨g, c, cur, rfl, hg, hh, hnc, hcm, hcs, rfl⟩⟩, hlen, fun j p hj => ?_⟩
  have hjl := (List.getElem?_eq_some_iff.1 hj).1
  show ((cur.toList.take (ys.length * 11)).drop (j * 11)).take 11 = encS p
  refine List.ext_getElem? fun q => ?_
  rw [List.getElem?_take]
  by_cases hq : q < 11
  · rw [if_pos hq, List.getElem?_drop, List.getElem?_take, if_pos (by omega), Array.getElem?_toList]
    exact hr j p hj q hq
  · rw [if_neg hq]
    exact (List.getElem?_eq_none (by rw [encS_len]; omega)).symm
theorem chunk_get {cur : Array Value} {n j : Nat} {p : Sp} (hj : j < n) (h : ((cur.toList.take (n * 11)).drop (j * 11)).take 11 = encS p) (q : Nat) (hq : q < 11) : cur[j * 11 + q]? = (encS p)[q]? := by
  have h1 := congrArg (fun l : List Value => l[q]?) h
  rw [List.getElem?_take, if_pos hq, List.getElem?_drop, List.getElem?_take, if_pos (by omega), Array.getElem?_toList] at h1
  exact h1
/-- One element of a row of one's own, stored. -/
theorem row_put {w : World} {base c n : Nat} {ad : Addr} {ys : List Sp} (h : Kd.R kS 38 w base (fun _ => True) (.slice (some ad) n c) ys) {i : Nat} (hi : i < ys.length) (s : Sp) :
    Kd.R kS 38 (putA w (ad.add (i * 11)) s) base (fun _ => True) (.slice (some ad) n c) (ys.set i s) ∧ Below base w (putA w (ad.add (i * 11)) s) ∧ (∀ k : Nat, k < 11 → w.frozen? ⟨(ad.add (i * 11)).block, (ad.add (i * 11)).off + k, none⟩ = false) ∧ w.frozen? (ad.add (i * 11)) = false := by
  obtain ⟨g, cur, rfl, hn, hg, hh, hnc, hcm, hcs, hr⟩ := row_open h (by omega)
  rw [add_at]
  have hsz : i * 11 + 11 ≤ cur.size := by rw [hcs]; have := Nat.mul_le_mul_right 11 (show i + 1 ≤ c by omega); omega
  have hps := putA_same (o := i * 11) s hh
  have hbp : Below base w (putA w ⟨g, i * 11, none⟩ s) := below_putA s (Below.refl base w) hg
  have hpf : ∀ k : Nat, w.frozen? ⟨g, i * 11 + k, none⟩ = false := fun k => blk_frozen hh _
  have has := arrA_size cur (i * 11) s
  have hae := fun t => arrA_ne (cur := cur) (o := i * 11) (t := t) s
  have haa := arrA_at (cur := cur) (o := i * 11) s hsz
  clear hh
  generalize putA w ⟨g, i * 11, none⟩ s = w1 at hps hbp ⊢
  generalize arrA cur (i * 11) s = cur1 at hps has hae haa
  refine ⟨row_close (by rw [List.length_set]; exact hn) hg hps (by rw [List.length_set]; exact hnc) hcm (by rw [has]; exact hcs) (fun j p hj q hq => ?_), hbp, fun k _ => hpf k, hpf 0⟩
  by_cases hji : j = i
  · subst hji
    rw [List.getElem?_set_self hi] at hj
    injection hj with hj
    rw [haa q hq, hj]
  · rw [List.getElem?_set_ne (fun e => hji e.symm)] at hj
    have hjl := (List.getElem?_eq_some_iff.1 hj).1
    rw [hae _ (by omega)]
    exact chunk_get hjl (hr j p hj) q hq
/-- The rest of a row of one's own, cleared. -/
theorem row_clear {w : World} {base c n : Nat} {ad : Addr} {ys : List Sp} (h : Kd.R kS 38 w base (fun _ => True) (.slice (some ad) n c) ys) {i : Nat} (hi : i < ys.length) (cc : Nat) :
    ∃ W, (∀ ty, (Builtin.clear_ #[22] ty #[.slice (some (ad.add (i * 11))) (n - i) cc]).run Try.prog w = .ok (.tuple #[]) W) ∧ Kd.R kS 38 W base (fun _ => True) (.slice (some ad) i c) (ys.take i) ∧ Below base w W := by
  obtain ⟨g, cur, rfl, hn, hg, hh, hnc, hcm, hcs, hr⟩ := row_open h (by omega)
  rw [add_at]
  have hz : (Builtin.zeroCells (encS zS).toArray (n - i)).toList.length = (n - i) * 11 := by
    rw [Array.length_toList, size_zeroCells]
    rfl
  have hle : i * 11 + 0 + (Builtin.zeroCells (encS zS).toArray (n - i)).toList.length ≤ cur.size := by
    rw [hz, hcs, Nat.add_zero, ← Nat.add_mul]
    exact Nat.mul_le_mul_right 11 (by omega)
  have hone : ∀ v ∈ (Builtin.zeroCells (encS zS).toArray (n - i)).toList, v.oneCell' = true := by
    intro v hv
    simp only [Builtin.zeroCells, Array.toList_map, List.mem_map] at hv
    obtain ⟨t, _, rfl⟩ := hv
    have ht : t % (encS zS).toArray.size < (encS zS).toArray.size := Nat.mod_lt _ (by decide)
    rw [getElem!_pos (encS zS).toArray (t % (encS zS).toArray.size) ht]
    exact encS_one zS _ (List.getElem_mem _)
  have hrun := run_storeCells_at (P := Try.prog) g (i * 11) 38 _ 0 cur w hh hle hone
  have hlen : (cur.toList.take (i * 11 + 0) ++ (Builtin.zeroCells (encS zS).toArray (n - i)).toList ++ cur.toList.drop (i * 11 + 0 + (Builtin.zeroCells (encS zS).toArray (n - i)).toList.length)).toArray.size = c * 11 := by
    rw [← hcs]
    show (cur.toList.take (i * 11 + 0) ++ (Builtin.zeroCells (encS zS).toArray (n - i)).toList ++ cur.toList.drop (i * 11 + 0 + (Builtin.zeroCells (encS zS).toArray (n - i)).toList.length)).length = cur.toList.length
    have hle' : i * 11 + 0 + (Builtin.zeroCells (encS zS).toArray (n - i)).toList.length ≤ cur.toList.length := hle
    rw [List.length_append, List.length_append, List.length_take, List.length_drop]
    omega
  refine ⟨_, fun ty => ?_, row_close (w := w.setRow g _) (by rw [List.length_take]; omega) hg (setRow_heap w g cur _ 38 (0, 0) hh) (by rw [List.length_take]; omega) hcm hlen (fun j p hj q hq => ?_), ⟨rfl, rfl, rfl, by simp, fun k hk => setRow_other w g k _ (by omega)⟩⟩
  · obtain ⟨m, hm⟩ : ∃ m, n - i = m + 1 := ⟨n - i - 1, by omega⟩
    rw [hm] at hrun ⊢
    have hz2 : (Value.agg #[.int .u64 0, .int .u64 0, .int .u64 0, .string ⟨#[]⟩, .string ⟨#[]⟩, .int .i64 0, .int .i64 0, .int .i64 0, .slice none 0 0, .slice none 0 0, .slice none 0 0]).cells = (encS zS).toArray := rfl
    simp [Builtin.clear_, run_underlying Try.underlying22, Result.andThen, Try.zeroValue38, hz2, hrun]
  · rw [List.getElem?_take] at hj
    split at hj
    · rename_i hji
      have hjl := (List.getElem?_eq_some_iff.1 hj).1
      rw [← chunk_get hjl (hr j p hj) q hq]
      rw [List.getElem?_toArray, List.append_assoc, List.getElem?_append_left (by rw [List.length_take]; show _ < min _ cur.size; omega), List.getElem?_take, if_pos (by omega), Array.getElem?_toList]
    · cases hj

end Go.Proofs.Ytoigebnhnkdbbaa.Tr

namespace Go.Proofs.Ytoigebnhnkdbbaa.Tr
open Go.RowKit Go.Proofs.YtoigebnhnkdbbaaW.PrintWords Go.Proofs.YtoigebnhnkdbbaaW.PrintLast Go.Proofs.YtoigebnhnkdbbaaW.PrintMore Go.Proofs.Ytoigebnhnkdbbaa.Math Go.Proofs.Ytoigebnhnkdbbaa.PAll Go.Proofs.Ytoigebnhnkdbbaa.MapG
set_option linter.unusedVariables false
set_option linter.unusedSimpArgs false

theorem take_set_snoc {ys : List Sp} {i : Nat} (hi : i < ys.length) (s : Sp) : (ys.set i s).take (i + 1) = ys.take i ++ [s] := by
  rw [List.take_succ_eq_append_getElem (by rw [List.length_set]; exact hi), List.getElem_set_self, List.take_set_of_le (Nat.le_refl _)]

set_option maxHeartbeats 4000000 in
set_option maxRecDepth 100000 in
theorem delf_calls {lo n g1 g2 base : Nat} {U C : List Sp} {v : Value} {w : World} (hF : Fc lo n w U C v g1 g2) (hU : ∀ i, hasId U i = hasId C i) (hnb : n < base) (hbs : base ≤ w.heap.size) (A : Option Addr) (c : Nat) (l : List Sp) (hr : Kd.R kS 38 w base (fun _ => True) (.slice A l.length c) l) (hn : l.length ≤ 1000000) :
    Calls Try.prog 27 #[.slice A l.length c, .func (.func 29) #[] #[.pointer (some ⟨n, 0, none⟩)]] w fun e w' => ∃ v', e = .returned v' ∧ Kd.R kS 38 w' base (fun _ => True) v' (l.filter fun s => rootB C s) ∧ Below base w w' := by
  have hix := indexf_calls hF hU A c l (Kd.R_reads' hr).2.2 (Kd.R_reads' hr).2.1 hn
  have HIX := Lib.hid hix
  have HF := Lib.hid hF
  have HU := Lib.hid hU
  have HR := Lib.hid hr
  have HN := Lib.hid hn
  have HNB := Lib.hid hnb
  have HBS := Lib.hid hbs
  clear hix hF hU hr hn hnb hbs
  go_enter Try.func27, Try.ntmps27
  go_wp2_with fail
  refine HIX.out.mono ?_
  rintro e w1 ⟨ix, rfl, hix, hb⟩
  have HB1 := Lib.hid (show Below base w w1 from ⟨hb.os, hb.tape, hb.output, hb.size, fun k hk => hb.block k (by have := HBS.out; omega)⟩)
  have HR1 := Lib.hid (Kd.R_below HR.out hb)
  clear hb HIX
  rcases hix with ⟨rfl, hall⟩ | ⟨k0, rfl, hk0, hall, hno⟩
  · have HALL := Lib.hid hall
    clear hall
    go_wp2
    go_ret
    exact ⟨_, rfl, by rw [List.filter_eq_self.2 HALL.out]; exact HR1.out, HB1.out⟩
  · obtain ⟨ad, rfl⟩ : ∃ ad, A = some ad := by
      obtain ⟨ad, c', h⟩ := Kd.R_slice1 HR1.out (by omega)
      injection h with h
      exact ⟨ad, h⟩
    have q0 : ((k0 : Int) == -1) = false := beq_eq_false_iff_ne.2 (by omega)
    have HW0 := Lib.hid (show wrap64 ((k0 : Int) + 1) = ((k0 + 1 : Nat) : Int) by have := HN.out; unfold wrap64; omega)
    have HK0 := Lib.hid hk0
    have HT0 := Lib.hid (show l.take k0 = (l.take (k0 + 1)).filter fun s => rootB C s by
      rw [List.take_succ_eq_append_getElem hk0, List.filter_append, List.filter_eq_self.2 hall, List.filter_cons_of_neg (by rw [hno _ (List.getElem?_eq_getElem hk0)]; decide)]
      simp)
    obtain ⟨k1, hk1⟩ : ∃ k1, k1 = k0 + 1 := ⟨_, rfl⟩
    rw [← hk1] at HW0 HT0
    have HK1 := Lib.hid hk1
    clear hall hno hk0 hk1
    go_wp2
    rw [HW0.out]
    go_loopw [5, 6, 7] (fun a5 a6 _ wr => ∃ (i j : Nat) (ys : List Sp), j ≤ l.length ∧ a5 = .int .i64 i ∧ a6 = .int .i64 j ∧ Hid (i < j) ∧ Hid (ys.length = l.length) ∧ Hid (ys.take i = (l.take j).filter fun s => rootB C s) ∧ Hid (ys.drop j = l.drop j) ∧ Hid (Kd.R kS 38 wr base (fun _ => True) (.slice (some ad) l.length c) ys) ∧ Hid (Below base w wr)) (fun _ a6 _ _ => l.length - (intOf a6).toNat)
    case atStart => exact ⟨k0, k1, l, by have := HK0.out; have := HK1.out; omega, rfl, rfl, Lib.hid (by have := HK1.out; omega), Lib.hid rfl, HT0, Lib.hid rfl, HR1, HB1⟩
    case round =>
      clear HR1 HB1 HR HT0
      obtain ⟨i, j, ys, hj, rfl, rfl, HIJ, HYL, HYT, HYD, HR, HB⟩ := hrel
      have HBZ := Lib.hid (Nat.le_trans HBS.out HB.out.size)
      by_cases hlt : j < l.length
      · obtain ⟨s, hs⟩ : ∃ s, ys[j]? = some s := ⟨_, List.getElem?_eq_getElem (by rw [HYL.out]; exact hlt)⟩
        have HLS := Lib.hid (show l[j]? = some s by
          have h1 : (ys.drop j)[0]? = (l.drop j)[0]? := by rw [HYD.out]
          rw [List.getElem?_drop, List.getElem?_drop, Nat.add_zero, hs] at h1
          exact h1.symm)
        obtain ⟨ad2, he2, x0, x1, x2, x3, x4, x5, x6, x7, x8, x9, x10⟩ := at_S (Kd.R_reads' HR.out).2.2 hs
        injection he2 with he2
        subst he2
        have q : (j : Int) < (l.length : Int) := by omega
        have HK := Lib.hid (show j + 1 ≤ l.length by omega)
        have HW := Lib.hid (show wrap64 ((j : Int) + 1) = ((j + 1 : Nat) : Int) by have := HN.out; unfold wrap64; omega)
        have hz := below_alloc (Below.refl wr.heap.size wr) (.cells (encS s).toArray 38)
        have HRx := Lib.hid (Kd.R_below HR.out hz)
        have HBx := Lib.hid (show Below base w (wr.alloc (.cells (encS s).toArray 38)) from HB.out.alloc HBZ.out _)
        have KS := Lib.hid (heap_alloc_new wr (.cells (encS s).toArray 38))
        rw [arr_S] at HRx HBx KS
        clear hs hlt hj hz
        go_upto_region 8 with (fail)
        clear x0 x1 x2 x3 x4 x5 x6 x7 x8 x9 x10 q
        generalize (wr.alloc (.cells #[.int .u64 s.tr, .int .u64 s.id, .int .u64 s.par, .string s.svc, .string s.op, .int .i64 s.st, .int .i64 s.du, .int .i64 s.stt, .slice s.a.1 s.a.2.1 s.a.2.2, .slice s.e.1 s.e.2.1 s.e.2.2, .slice s.l.1 s.l.2.1 s.l.2.2] 38)) = w8 at HRx HBx KS ⊢
        generalize (Value.agg #[.int .u64 s.tr, .int .u64 s.id, .int .u64 s.par, .string s.svc, .string s.op, .int .i64 s.st, .int .i64 s.du, .int .i64 s.stt, .slice s.a.1 s.a.2.1 s.a.2.2, .slice s.e.1 s.e.2.1 s.e.2.2, .slice s.l.1 s.l.2.1 s.l.2.2]) = junk1
        obtain ⟨x0, x1, x2, x3, x4, x5, x6, x7, x8, x9, x10⟩ := blkS (s := s) KS.out
        have hcall := isnt_calls (HF.out.move (w1 := w8) (fun k hk => HBx.out.block k (by have := HNB.out; omega))) HU.out s
        rw [arr_S] at hcall
        have HCALL := Lib.hid hcall
        clear hcall
        go_wp2_with fail
        refine HCALL.out.mono ?_
        rintro e w9 ⟨rfl, hb⟩
        have HR9 := Lib.hid (Kd.R_below HRx.out hb)
        have HB9 := Lib.hid (show Below base w w9 from HBx.out.trans ⟨hb.os, hb.tape, hb.output, hb.size, fun k hk => hb.block k (by have := HBx.out.size; have := HBS.out; omega)⟩)
        have K9 := Lib.hid (block_below KS.out hb)
        clear hb x0 x1 x2 x3 x4 x5 x6 x7 x8 x9 x10
        cases hroot : rootB C s with
        | true =>
          have hi : i < ys.length := by have := HIJ.out; have := HYL.out; have := HK.out; omega
          obtain ⟨z, hzz⟩ : ∃ z, ys[i]? = some z := ⟨_, List.getElem?_eq_getElem hi⟩
          obtain ⟨hr2, hb2, hf2, f0⟩ := row_put HR9.out hi s
          have f1 := hf2 1 (by omega)
          have f2 := hf2 2 (by omega)
          have f3 := hf2 3 (by omega)
          have f4 := hf2 4 (by omega)
          have f5 := hf2 5 (by omega)
          have f6 := hf2 6 (by omega)
          have f7 := hf2 7 (by omega)
          have f8 := hf2 8 (by omega)
          have f9 := hf2 9 (by omega)
          have f10 := hf2 10 (by omega)
          have HRP := Lib.hid hr2
          have HBP := Lib.hid (HB9.out.trans hb2)
          obtain ⟨ad3, he3, y0, y1, y2, y3, y4, y5, y6, y7, y8, y9, y10⟩ := at_S (Kd.R_reads' HR9.out).2.2 hzz
          injection he3 with he3
          subst he3
          obtain ⟨x0, x1, x2, x3, x4, x5, x6, x7, x8, x9, x10⟩ := blkS (s := s) K9.out
          have qi : (i : Int) < (l.length : Int) := by have := HYL.out; omega
          have HYT2 := Lib.hid (show (ys.set i s).take (i + 1) = (l.take (j + 1)).filter fun s => rootB C s by
            obtain ⟨hk2, e⟩ := List.getElem?_eq_some_iff.1 HLS.out
            rw [take_set_snoc hi, HYT.out, List.take_succ_eq_append_getElem hk2, e, List.filter_append, List.filter_cons_of_pos hroot]
            rfl)
          have HYD2 := Lib.hid (show (ys.set i s).drop (j + 1) = l.drop (j + 1) by
            rw [List.drop_set_of_lt (by have := HIJ.out; omega), ← List.drop_drop, ← List.drop_drop, HYD.out])
          have HWI := Lib.hid (show wrap64 ((i : Int) + 1) = ((i + 1 : Nat) : Int) by have := HN.out; unfold wrap64; omega)
          obtain ⟨g, hg⟩ : ∃ g, ad = ⟨g, 0, none⟩ := by
            obtain ⟨g, cur, h, _⟩ := row_open HR9.out (by omega)
            exact ⟨g, h⟩
          have hadd : ad.add (i * 11) = ⟨g, i * 11, none⟩ := by rw [hg]; exact add_at g (i * 11)
          simp only [hadd] at f0 f1 f2 f3 f4 f5 f6 f7 f8 f9 f10 y0 y1 y2 y3 y4 y5 y6 y7 y8 y9 y10 HRP HBP
          clear hroot hr2 hb2 hf2 hzz hi hg
          go_upto_region 10 with (fail)
          change Hid (Kd.R kS 38 (((((((((((w9.setCell ⟨g, i * 11, none⟩ (.int .u64 s.tr)).setCell ⟨g, i * 11 + 1, none⟩ (.int .u64 s.id)).setCell ⟨g, i * 11 + 2, none⟩ (.int .u64 s.par)).setCell ⟨g, i * 11 + 3, none⟩ (.string s.svc)).setCell ⟨g, i * 11 + 4, none⟩ (.string s.op)).setCell ⟨g, i * 11 + 5, none⟩ (.int .i64 s.st)).setCell ⟨g, i * 11 + 6, none⟩ (.int .i64 s.du)).setCell ⟨g, i * 11 + 7, none⟩ (.int .i64 s.stt)).setCell ⟨g, i * 11 + 8, none⟩ (.slice s.a.1 s.a.2.1 s.a.2.2)).setCell ⟨g, i * 11 + 9, none⟩ (.slice s.e.1 s.e.2.1 s.e.2.2)).setCell ⟨g, i * 11 + 10, none⟩ (.slice s.l.1 s.l.2.1 s.l.2.2)) base (fun _ => True) (.slice (some ad) l.length c) (ys.set i s)) at HRP
          change Hid (Below base w (((((((((((w9.setCell ⟨g, i * 11, none⟩ (.int .u64 s.tr)).setCell ⟨g, i * 11 + 1, none⟩ (.int .u64 s.id)).setCell ⟨g, i * 11 + 2, none⟩ (.int .u64 s.par)).setCell ⟨g, i * 11 + 3, none⟩ (.string s.svc)).setCell ⟨g, i * 11 + 4, none⟩ (.string s.op)).setCell ⟨g, i * 11 + 5, none⟩ (.int .i64 s.st)).setCell ⟨g, i * 11 + 6, none⟩ (.int .i64 s.du)).setCell ⟨g, i * 11 + 7, none⟩ (.int .i64 s.stt)).setCell ⟨g, i * 11 + 8, none⟩ (.slice s.a.1 s.a.2.1 s.a.2.2)).setCell ⟨g, i * 11 + 9, none⟩ (.slice s.e.1 s.e.2.1 s.e.2.2)).setCell ⟨g, i * 11 + 10, none⟩ (.slice s.l.1 s.l.2.1 s.l.2.2))) at HBP
          generalize (((((((((((w9.setCell ⟨g, i * 11, none⟩ (.int .u64 s.tr)).setCell ⟨g, i * 11 + 1, none⟩ (.int .u64 s.id)).setCell ⟨g, i * 11 + 2, none⟩ (.int .u64 s.par)).setCell ⟨g, i * 11 + 3, none⟩ (.string s.svc)).setCell ⟨g, i * 11 + 4, none⟩ (.string s.op)).setCell ⟨g, i * 11 + 5, none⟩ (.int .i64 s.st)).setCell ⟨g, i * 11 + 6, none⟩ (.int .i64 s.du)).setCell ⟨g, i * 11 + 7, none⟩ (.int .i64 s.stt)).setCell ⟨g, i * 11 + 8, none⟩ (.slice s.a.1 s.a.2.1 s.a.2.2)).setCell ⟨g, i * 11 + 9, none⟩ (.slice s.e.1 s.e.2.1 s.e.2.2)).setCell ⟨g, i * 11 + 10, none⟩ (.slice s.l.1 s.l.2.1 s.l.2.2)) = w10 at HRP HBP ⊢
          clear x0 x1 x2 x3 x4 x5 x6 x7 x8 x9 x10 y0 y1 y2 y3 y4 y5 y6 y7 y8 y9 y10 f0 f1 f2 f3 f4 f5 f6 f7 f8 f9 f10 qi
          go_wp2
          go_roundw
          case rel => exact ⟨i + 1, j + 1, ys.set i s, HK.out, by rw [HWI.out], by rw [HW.out], Lib.hid (by have := HIJ.out; omega), Lib.hid (by rw [List.length_set]; exact HYL.out), HYT2, HYD2, HRP, HBP⟩
          case measure => exact meas_up HN.out HK.out
        | false =>
          have HYT2 := Lib.hid (show ys.take i = (l.take (j + 1)).filter fun s => rootB C s by
            obtain ⟨hk2, e⟩ := List.getElem?_eq_some_iff.1 HLS.out
            rw [HYT.out, List.take_succ_eq_append_getElem hk2, e, List.filter_append, List.filter_cons_of_neg (by rw [hroot]; decide)]
            simp)
          have HYD2 := Lib.hid (show ys.drop (j + 1) = l.drop (j + 1) by rw [← List.drop_drop, ← List.drop_drop, HYD.out])
          clear hroot
          go_wp2
          go_roundw
          case rel => exact ⟨i, j + 1, ys, HK.out, rfl, by rw [HW.out], Lib.hid (by have := HIJ.out; omega), HYL, HYT2, HYD2, HR9, HB9⟩
          case measure => exact meas_up HN.out HK.out
      · have hkl : j = l.length := by omega
        subst hkl
        have q : decide ((l.length : Int) < (l.length : Int)) = false := decide_eq_false (by omega)
        rw [List.take_length] at HYT
        have hij := HIJ.out
        have hlc := (Kd.R_reads' HR.out).2.1
        obtain ⟨inf, hinf, hsz⟩ : ∃ inf, Try.prog.info? 38 = some inf ∧ inf.size = 11 := by
          obtain ⟨inf, h1, h2⟩ := Option.map_eq_some_iff.1 infoS
          simp only [Prod.mk.injEq] at h2
          exact ⟨inf, h1, h2.2.1⟩
        have kc1 := cut_from (P := Try.prog) 22 38 .i64 Try.underlying22 hinf 11 hsz (some ad) l.length c (i : Int) (by omega) (by omega)
        rw [Int.toNat_natCast, if_neg (by omega)] at kc1
        change ∀ W : World, _ = Result.ok (Value.slice (some (ad.add (i * 11))) (l.length - i) (c - i)) W at kc1
        have kc2 := cut_to (P := Try.prog) 22 38 .i64 Try.underlying22 hinf (some ad) l.length c (i : Int) (by omega) (by omega) hlc
        rw [Int.toNat_natCast] at kc2
        obtain ⟨W, hclr, hrW, hbW⟩ := row_clear HR.out (i := i) (by rw [HYL.out]; exact hij) (c - i)
        have hbc : ∀ ats ty cs args, builtin .clear ats ty cs args = (do pure (.value (← Builtin.clear_ ats ty args))) := fun _ _ _ _ => rfl
        have HRW := Lib.hid hrW
        have HBW := Lib.hid (HB.out.trans hbW)
        clear hlt hj hij hlc hinf hsz hrW hbW
        go_wp2
        go_ret
        exact ⟨_, rfl, by rw [← HYT.out]; exact HRW.out, HBW.out⟩

end Go.Proofs.Ytoigebnhnkdbbaa.Tr
