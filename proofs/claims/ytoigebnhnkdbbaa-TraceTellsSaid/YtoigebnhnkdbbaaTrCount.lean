/- ref26.find, ahead, Root on raw spans (chapter 26), by hand. -/
import Derived.Test.YtoigebnhnkdbbaaTrIn
namespace Go.Proofs.Ytoigebnhnkdbbaa.Tr
open Go.RowKit Go.Proofs.YtoigebnhnkdbbaaW.PrintWords Go.Proofs.YtoigebnhnkdbbaaW.PrintLast Go.Proofs.YtoigebnhnkdbbaaW.PrintMore Go.Proofs.Ytoigebnhnkdbbaa.Math Go.Proofs.Ytoigebnhnkdbbaa.PAll
set_option linter.unusedVariables false
set_option linter.unusedSimpArgs false

set_option maxHeartbeats 4000000 in
set_option maxRecDepth 100000 in
theorem find_calls (A : Option Addr) (c : Nat) (l : List Sp) (id : Int) (w : World) (hr : Kd.C kS w A l.length l) (hn : l.length ≤ 1000000) :
    Calls Try.prog 31 #[.slice A l.length c, .int .u64 id] w fun e w' => ∃ i : Int, e = .returned (.int .i64 i) ∧ ((hasId l id = true ∧ 0 ≤ i) ∨ (hasId l id = false ∧ i = -1)) ∧ w = w' := by
  have HR := Lib.hid hr
  have HN := Lib.hid hn
  clear hr hn
  go_enter Try.func31, Try.ntmps31
  go_wp2
  go_loopw [5] (fun i wr => ∃ k : Nat, k ≤ l.length ∧ i = .int .i64 k ∧ Hid (hasId (l.take k) id = false) ∧ w = wr) (fun i _ => l.length - (intOf i).toNat)
  case atStart => exact ⟨0, by omega, rfl, Lib.hid rfl, rfl⟩
  case round =>
    obtain ⟨k, hk, rfl, HA, rfl⟩ := hrel
    by_cases hlt : k < l.length
    · obtain ⟨s, hs⟩ : ∃ s, l[k]? = some s := ⟨_, List.getElem?_eq_getElem hlt⟩
      obtain ⟨ad, rfl, x0, x1, x2, x3, x4, x5, x6, x7, x8, x9, x10⟩ := at_S HR.out hs
      have HTk := Lib.hid (show hasId (l.take (k + 1)) id = (hasId (l.take k) id || s.id == id) by
        obtain ⟨hk2, e⟩ := List.getElem?_eq_some_iff.1 hs
        rw [List.take_succ_eq_append_getElem hk2, e, hasId_app]
        simp [hasId])
      have HSM := Lib.hid (List.mem_of_getElem? hs)
      have q : (k : Int) < (l.length : Int) := by omega
      have HK := Lib.hid (show k + 1 ≤ l.length by omega)
      have HW := Lib.hid (show wrap64 ((k : Int) + 1) = ((k + 1 : Nat) : Int) by have := HN.out; unfold wrap64; omega)
      clear hs hlt hk
      by_cases he : s.id = id
      · have e1 : (s.id == id) = true := beq_iff_eq.2 he
        have HE := Lib.hid (show hasId l id = true from hasId_iff.2 ⟨s, HSM.out, he⟩)
        clear he
        go_wp2
        go_ret
        exact ⟨k, rfl, .inl ⟨HE.out, by omega⟩, rfl⟩
      · have e1 : (s.id == id) = false := beq_eq_false_iff_ne.2 he
        have HE := Lib.hid (show hasId (l.take (k + 1)) id = false by rw [HTk.out, HA.out, e1]; rfl)
        clear he
        go_wp2
        go_roundw
        case rel => exact ⟨k + 1, HK.out, by rw [HW.out], HE, by first | rfl | trivial⟩
        case measure => exact meas_up HN.out HK.out
    · have hkl : k = l.length := by omega
      subst hkl
      have q : decide ((l.length : Int) < (l.length : Int)) = false := decide_eq_false (by omega)
      rw [List.take_length] at HA
      clear hlt hk
      go_wp2
      go_ret
      exact ⟨-1, rfl, .inr ⟨HA.out, rfl⟩, rfl⟩

set_option maxHeartbeats 4000000 in
set_option maxRecDepth 100000 in
theorem ahead_calls (x y : Sp) (w : World) : Calls Try.prog 32 #[.agg (encS x).toArray, .agg (encS y).toArray] w fun e w' => e = .returned (.bool (ltS x y)) ∧ Below w.heap.size w w' := by
  have hb := below_alloc (below_alloc (Below.refl w.heap.size w) (.cells (encS x).toArray 38)) (.cells (encS y).toArray 38)
  have k1 : ((w.alloc (.cells (encS x).toArray 38)).alloc (.cells (encS y).toArray 38)).heap[w.heap.size]? = some (.cells (encS x).toArray 38 (0, 0)) := block_below (heap_alloc_new w _) (below_alloc (Below.refl _ _) _)
  have k2 : ((w.alloc (.cells (encS x).toArray 38)).alloc (.cells (encS y).toArray 38)).heap[(w.alloc (.cells (encS x).toArray 38)).heap.size]? = some (.cells (encS y).toArray 38 (0, 0)) := heap_alloc_new _ _
  rw [show (w.alloc (.cells (encS x).toArray 38)).heap.size = w.heap.size + 1 by simp] at k2
  have hcm : Cm x y w ((w.alloc (.cells (encS x).toArray 38)).alloc (.cells (encS y).toArray 38)) := ⟨hb, k1, k2⟩
  have HC := Lib.hid hcm
  clear hb k1 k2 hcm
  obtain ⟨r, hr⟩ : ∃ r, ltS x y = r := ⟨_, rfl⟩
  rw [hr]
  have HR := Lib.hid hr
  clear hr
  rw [arr_S, arr_S] at HC ⊢
  go_enter Try.func32, Try.ntmps32
  go_upto_region 1 with (fail)
  generalize ((w.alloc (.cells #[.int .u64 x.tr, .int .u64 x.id, .int .u64 x.par, .string x.svc, .string x.op, .int .i64 x.st, .int .i64 x.du, .int .i64 x.stt, .slice x.a.1 x.a.2.1 x.a.2.2, .slice x.e.1 x.e.2.1 x.e.2.2, .slice x.l.1 x.l.2.1 x.l.2.2] 38)).alloc (.cells #[.int .u64 y.tr, .int .u64 y.id, .int .u64 y.par, .string y.svc, .string y.op, .int .i64 y.st, .int .i64 y.du, .int .i64 y.stt, .slice y.a.1 y.a.2.1 y.a.2.2, .slice y.e.1 y.e.2.1 y.e.2.2, .slice y.l.1 y.l.2.1 y.l.2.2] 38)) = w2 at HC ⊢
  generalize (Value.agg #[.int .u64 x.tr, .int .u64 x.id, .int .u64 x.par, .string x.svc, .string x.op, .int .i64 x.st, .int .i64 x.du, .int .i64 x.stt, .slice x.a.1 x.a.2.1 x.a.2.2, .slice x.e.1 x.e.2.1 x.e.2.2, .slice x.l.1 x.l.2.1 x.l.2.2]) = junk1
  generalize (Value.agg #[.int .u64 y.tr, .int .u64 y.id, .int .u64 y.par, .string y.svc, .string y.op, .int .i64 y.st, .int .i64 y.du, .int .i64 y.stt, .slice y.a.1 y.a.2.1 y.a.2.2, .slice y.e.1 y.e.2.1 y.e.2.2, .slice y.l.1 y.l.2.1 y.l.2.2]) = junk2
  have a5 : w2.cell? ⟨w.heap.size, 5, none⟩ = some (.int .i64 x.st) := (blk_cell HC.out.k1 5).trans rfl
  have a1 : w2.cell? ⟨w.heap.size, 1, none⟩ = some (.int .u64 x.id) := (blk_cell HC.out.k1 1).trans rfl
  have b5 : w2.cell? ⟨w.heap.size + 1, 5, none⟩ = some (.int .i64 y.st) := (blk_cell HC.out.k2 5).trans rfl
  have b1 : w2.cell? ⟨w.heap.size + 1, 1, none⟩ = some (.int .u64 y.id) := (blk_cell HC.out.k2 1).trans rfl
  by_cases h1 : x.st < y.st
  · have HE := Lib.hid (show ltS x y = true from ltS_iff.2 (.inl h1))
    have d1 : decide (x.st < y.st) = true := decide_eq_true h1
    go_wp2
    go_ret
    exact ⟨by rw [← HR.out, HE.out]; rfl, HC.out.bw⟩
  · have d1 : decide (x.st < y.st) = false := decide_eq_false h1
    by_cases h2 : x.st = y.st
    · have d2 : (x.st == y.st) = true := beq_iff_eq.2 h2
      by_cases h3 : x.id < y.id
      · have HE := Lib.hid (show ltS x y = true from ltS_iff.2 (.inr ⟨h2, h3⟩))
        have d3 : decide (x.id < y.id) = true := decide_eq_true h3
        clear h1 h2
        go_wp2
        go_ret
        exact ⟨by rw [← HR.out, HE.out]; rfl, HC.out.bw⟩
      · have HE := Lib.hid (show ltS x y = false by rw [Bool.eq_false_iff]; intro h; rw [ltS_iff] at h; omega)
        have d3 : decide (x.id < y.id) = false := decide_eq_false h3
        clear h1 h2 h3
        go_wp2
        go_ret
        exact ⟨by rw [← HR.out, HE.out]; rfl, HC.out.bw⟩
    · have d2 : (x.st == y.st) = false := beq_eq_false_iff_ne.2 h2
      have HE := Lib.hid (show ltS x y = false by rw [Bool.eq_false_iff]; intro h; rw [ltS_iff] at h; omega)
      clear h1 h2
      go_wp2
      go_ret
      exact ⟨by rw [← HR.out, HE.out]; rfl, HC.out.bw⟩

set_option maxHeartbeats 4000000 in
set_option maxRecDepth 100000 in
theorem root26_calls (A : Option Addr) (c : Nat) (l : List Sp) (s : Sp) (w : World) (hr : Kd.C kS w A l.length l) (hn : l.length ≤ 1000000) :
    Calls Try.prog 18 #[.slice A l.length c, .agg (encS s).toArray] w fun e w' => e = .returned (.bool (rootB l s)) ∧ Below w.heap.size w w' := by
  have hz := below_alloc (Below.refl w.heap.size w) (.cells (encS s).toArray 38)
  have HF := Lib.hid (find_calls A c l s.par (w.alloc (.cells (encS s).toArray 38)) (Kd.C_below hr hz) hn)
  have HB := Lib.hid hz
  have KS := Lib.hid (heap_alloc_new w (.cells (encS s).toArray 38))
  clear hz hr hn
  obtain ⟨r, hr⟩ : ∃ r, rootB l s = r := ⟨_, rfl⟩
  rw [hr]
  have HR := Lib.hid hr
  clear hr
  rw [arr_S] at HF HB KS ⊢
  go_enter Try.func18, Try.ntmps18
  go_upto_region 1 with (fail)
  generalize (w.alloc (.cells #[.int .u64 s.tr, .int .u64 s.id, .int .u64 s.par, .string s.svc, .string s.op, .int .i64 s.st, .int .i64 s.du, .int .i64 s.stt, .slice s.a.1 s.a.2.1 s.a.2.2, .slice s.e.1 s.e.2.1 s.e.2.2, .slice s.l.1 s.l.2.1 s.l.2.2] 38)) = w1 at HF HB KS ⊢
  have y2 : w1.cell? ⟨w.heap.size, 2, none⟩ = some (.int .u64 s.par) := (blk_cell KS.out 2).trans rfl
  by_cases h0 : s.par = 0
  · have e1 : (s.par == 0) = true := beq_iff_eq.2 h0
    have HE := Lib.hid (show rootB l s = true by unfold rootB; rw [e1]; rfl)
    clear h0
    go_wp2
    go_ret
    exact ⟨by rw [← HR.out, HE.out]; rfl, HB.out⟩
  · have e1 : (s.par == 0) = false := beq_eq_false_iff_ne.2 h0
    have HE := Lib.hid (show rootB l s = !hasId l s.par by unfold rootB; rw [e1]; rfl)
    clear h0
    go_wp2_with fail
    refine HF.out.mono ?_
    rintro e w2 ⟨i, rfl, hi, rfl⟩
    rcases hi with ⟨hh, hi⟩ | ⟨hh, rfl⟩
    · have d : decide (i < 0) = false := decide_eq_false (by omega)
      have HH := Lib.hid hh
      clear hh
      go_wp2
      go_ret
      exact ⟨by rw [← HR.out, HE.out, HH.out]; rfl, HB.out⟩
    · have HH := Lib.hid hh
      clear hh
      go_wp2
      go_ret
      exact ⟨by rw [← HR.out, HE.out, HH.out]; rfl, HB.out⟩

end Go.Proofs.Ytoigebnhnkdbbaa.Tr

namespace Go.Proofs.Ytoigebnhnkdbbaa.Tr
open Go.RowKit Go.Proofs.YtoigebnhnkdbbaaW.PrintWords Go.Proofs.YtoigebnhnkdbbaaW.PrintLast Go.Proofs.YtoigebnhnkdbbaaW.PrintMore Go.Proofs.Ytoigebnhnkdbbaa.Math Go.Proofs.Ytoigebnhnkdbbaa.PAll
set_option linter.unusedVariables false
set_option linter.unusedSimpArgs false

theorem cnt_snoc (l : List Sp) (s : Sp) : cnt (l ++ [s]) = if hasId l s.id = true then cnt l else ins s (cnt l) := by
  unfold cnt
  rw [uq_snoc]
  unfold uq1
  rw [uq_has]
  split
  · rfl
  · rw [List.foldl_append]; rfl
/-- Where it goes: after those ahead. -/
theorem ins_at (s : Sp) (o : List Sp) (k : Nat) (hk : k ≤ o.length) (h1 : ∀ x ∈ o.take k, ltS x s = true) (h2 : ∀ x, o[k]? = some x → ltS x s = false) : ins s o = o.take k ++ s :: o.drop k := by
  induction o generalizing k with
  | nil => simp [ins]
  | cons a o ih =>
    cases k with
    | zero =>
      have := h2 a rfl
      simp [ins, this]
    | succ k =>
      have ha := h1 a (by simp)
      have := ih k (by simpa using hk) (fun x hx => h1 x (by simp [hx])) (fun x hx => h2 x (by simpa using hx))
      unfold ins at this ⊢
      simp only [List.takeWhile_cons, List.dropWhile_cons, ha, if_true, List.take_succ_cons, List.drop_succ_cons, List.cons_append]
      rw [this]

/-- A row of one's own stays while another one grows. -/
theorem row_keep {w w1 : World} {base : Nat} {v : Value} {xs : List Sp} {row : Option Nat} (h : Kd.R kS 38 w base (fun _ => True) v xs) (hg : w.grownBy w1 row) (hne : ∀ k, v.ownBlock = some k → row ≠ some k) : Kd.R kS 38 w1 base (fun _ => True) v xs := by
  have h4 := Kd.R_flat (ok' := fun k => some k = v.ownBlock) (fun {_ _ _ _} hm => hm) h (fun k hk _ => hk.symm)
  exact Kd.R_mono (Kd.R_step h4 fun k hk hlt => hg.block k hlt (fun e => hne k hk.symm e.symm)) (fun _ _ => trivial)
/-- Where a row of one's own lies. -/
theorem row_lt {w : World} {base : Nat} {v : Value} {xs : List Sp} (h : Kd.R kS 38 w base (fun _ => True) v xs) : ∀ k, v.ownBlock = some k → base ≤ k ∧ k < w.heap.size := by
  obtain ⟨_, inner, ho, _⟩ := h
  exact fun k hk => ⟨own_base ho k hk, own_lt ho k hk⟩

set_option maxHeartbeats 8000000 in
set_option maxRecDepth 100000 in
theorem counted_calls (A : Option Addr) (c : Nat) (l : List Sp) (w : World) (hr : Kd.C kS w A l.length l) (hl : l.length ≤ c) (hn : l.length ≤ 1000000) :
    Calls Try.prog 17 #[.slice A l.length c] w fun e w' => ∃ v, e = .returned v ∧ Kd.R kS 38 w' w.heap.size (fun _ => True) v (cnt l) ∧ Below w.heap.size w w' := by
  have HR := Lib.hid hr
  have HN := Lib.hid hn
  have HL := Lib.hid hl
  clear hr hn hl
  obtain ⟨inf, hinf, hsz⟩ : ∃ inf, Try.prog.info? 38 = some inf ∧ inf.size = 11 := by
    obtain ⟨inf, h1, h2⟩ := Option.map_eq_some_iff.1 infoS
    simp only [Prod.mk.injEq] at h2
    exact ⟨inf, h1, h2.2.1⟩
  have HINF := Lib.hid hinf
  have HSZ := Lib.hid hsz
  clear hinf hsz
  go_enter Try.func17, Try.ntmps17
  go_wp2
  go_loopw [3, 4, 5] (fun v3 i _ wr => ∃ (k : Nat) (Ao : Option Addr) (co : Nat), k ≤ l.length ∧ v3 = .slice Ao (cnt (l.take k)).length co ∧ i = .int .i64 k ∧ Hid (Kd.R kS 38 wr w.heap.size (fun _ => True) (.slice Ao (cnt (l.take k)).length co) (cnt (l.take k))) ∧ Hid (Below w.heap.size w wr)) (fun _ i _ _ => l.length - (intOf i).toNat)
  case atStart => exact ⟨0, none, 0, by omega, rfl, rfl, Lib.hid (Kd.R_nil _ _ _ _ _), Lib.hid (Below.refl _ _)⟩
  case round =>
    obtain ⟨k, Ao, co, hk, rfl, rfl, HO, HB⟩ := hrel
    by_cases hlt : k < l.length
    · obtain ⟨s, hs⟩ : ∃ s, l[k]? = some s := ⟨_, List.getElem?_eq_getElem hlt⟩
      have HGS := Lib.hid hs
      have HTL := Lib.hid (show l.take (k + 1) = l.take k ++ [s] by
        obtain ⟨hk2, e⟩ := List.getElem?_eq_some_iff.1 hs
        rw [List.take_succ_eq_append_getElem hk2, e])
      have HTk := Lib.hid (show cnt (l.take (k + 1)) = if hasId (l.take k) s.id = true then cnt (l.take k) else ins s (cnt (l.take k)) by rw [HTL.out, cnt_snoc])
      have q : (k : Int) < (l.length : Int) := by omega
      have HK := Lib.hid (show k + 1 ≤ l.length by omega)
      have HW := Lib.hid (show wrap64 ((k : Int) + 1) = ((k + 1 : Nat) : Int) by have := HN.out; unfold wrap64; omega)
      have HTLN := Lib.hid (show (l.take k).length = k by rw [List.length_take]; omega)
      have HOL := Lib.hid (show (cnt (l.take k)).length ≤ k from Nat.le_trans (cnt_len _) (by rw [List.length_take]; omega))
      obtain ⟨ad, rfl, _⟩ := at_S (Kd.C_below HR.out HB.out) hs
      have kc := cut_to (P := Try.prog) 22 38 .i64 Try.underlying22 HINF.out (some ad) l.length c (k : Int) (by omega) (by omega) HL.out
      rw [Int.toNat_natCast] at kc
      have hRd : Kd.C kS wr (some ad) (l.take k).length (l.take k) := Kd.C_take (Kd.C_below HR.out HB.out) (by omega)
      have HRT := Lib.hid hRd
      obtain ⟨o, ho⟩ : ∃ o, cnt (l.take k) = o := ⟨_, rfl⟩
      rw [ho] at HO HTk HOL ⊢
      clear hs hlt hk hRd ho
      go_upto_region 5 with (fail)
      have hcd := Kd.C_below HR.out (below_drew HB.out)
      obtain ⟨ad2, he2, _, x1, _⟩ := at_S hcd HGS.out
      injection he2 with he2
      subst he2
      refine start_ (n := 10) (S := fun w' => w'.cell? ⟨(ad.add (k * 11)).block, (ad.add (k * 11)).off + 1, none⟩ = some (.int .u64 s.id)) (ds := []) #[false, false, false, false, false, false, false, false, false, false] (by kernel_rfl) rfl rfl (x1) (fun hHeld => ?_)
      generalize hwe : wr.drew = w5 at x1 hcd hHeld ⊢
      have HB5 := Lib.hid (show Below w.heap.size w w5 by rw [← hwe]; exact below_drew HB.out)
      have HX1 := Lib.hid x1
      have HRT5 := Lib.hid (show Kd.C kS w5 (some ad) (l.take k).length (l.take k) by rw [← hwe]; exact Kd.C_below HRT.out (below_drew (Below.refl _ _)))
      have HO5 := Lib.hid (show Kd.R kS 38 w5 w.heap.size (fun _ => True) (.slice Ao o.length co) o by rw [← hwe]; exact Kd.R_drew HO.out)
      clear x1 hcd hwe
      refine pure_ (i := 0) (N := some 12) (v := ?_) (a' := ?_) #[true, false, false, false, false, false, false, false, false, false] rfl rfl (by kernel_rfl) (fun _ _ _ h => h) (Or.inl ⟨by rfl, ?_⟩) ?_ ?_
      rotate_left
      · intro w'
        go_simp
        with_reducible rfl
      rotate_left
      · simp only [Act.put, List.setIfInBounds_toArray, List.set_cons_zero, List.set_cons_succ, i64_w, i32_w]
        rfl
      refine pure_ (i := 1) (N := some 13) (v := ?_) (a' := ?_) #[true, true, false, false, false, false, false, false, false, false] rfl rfl (by kernel_rfl) (fun _ _ _ h => h) (Or.inl ⟨by rfl, ?_⟩) ?_ ?_
      rotate_left
      · intro w'
        go_simp
        with_reducible rfl
      rotate_left
      · simp only [Act.put, List.setIfInBounds_toArray, List.set_cons_zero, List.set_cons_succ, i64_w, i32_w]
        rfl
      refine pure_ (i := 2) (N := some 14) (v := ?_) (a' := ?_) #[true, true, true, false, false, false, false, false, false, false] rfl rfl (by kernel_rfl) (fun _ _ _ h => h) (Or.inl ⟨by rfl, ?_⟩) ?_ ?_
      rotate_left
      · intro w'
        go_simp
        with_reducible rfl
      rotate_left
      · simp only [Act.put, List.setIfInBounds_toArray, List.set_cons_zero, List.set_cons_succ, i64_w, i32_w]
        rfl
      refine pure_ (i := 3) (N := some 15) (v := ?_) (a' := ?_) #[true, true, true, true, false, false, false, false, false, false] rfl rfl (by kernel_rfl) (fun _ _ _ h => h) (Or.inl ⟨by rfl, ?_⟩) ?_ ?_
      rotate_left
      · intro w'
        go_simp
        with_reducible rfl
      rotate_left
      · simp only [Act.put, List.setIfInBounds_toArray, List.set_cons_zero, List.set_cons_succ, i64_w, i32_w]
        rfl
      refine pure_ (i := 4) (N := some 16) (v := ?_) (a' := ?_) #[true, true, true, true, true, false, false, false, false, false] rfl rfl (by kernel_rfl) (fun _ _ _ h => h) (Or.inl ⟨by rfl, ?_⟩) ?_ ?_
      rotate_left
      · intro w'
        go_simp
        with_reducible rfl
      rotate_left
      · simp only [Act.put, List.setIfInBounds_toArray, List.set_cons_zero, List.set_cons_succ, i64_w, i32_w]
        rfl
      refine pure_ (i := 5) (N := some 17) (v := ?_) (a' := ?_) #[true, true, true, true, true, true, false, false, false, false] rfl rfl (by kernel_rfl) (fun _ _ _ h => h) (Or.inl ⟨by rfl, ?_⟩) ?_ ?_
      rotate_left
      · intro w'
        go_simp
        with_reducible rfl
      rotate_left
      · simp only [Act.put, List.setIfInBounds_toArray, List.set_cons_zero, List.set_cons_succ, i64_w, i32_w]
        rfl
      refine pure_ (i := 6) (N := some 18) (v := ?_) (a' := ?_) #[true, true, true, true, true, true, true, false, false, false] rfl rfl (by kernel_rfl) (fun _ _ _ h => h) (Or.inl ⟨by rfl, ?_⟩) ?_ ?_
      rotate_left
      · intro w'
        go_simp
        with_reducible rfl
      rotate_left
      · simp only [Act.put, List.setIfInBounds_toArray, List.set_cons_zero, List.set_cons_succ, i64_w, i32_w]
        rfl
      refine take_ (i := 7) (N := some 19) (v := ?_) (a' := ?_) #[true, true, true, true, true, true, true, true, false, false] rfl rfl (by kernel_rfl) (fun _ _ _ h => h) (Or.inl ⟨by rfl, ?_⟩) hHeld ?_ ?_
      rotate_left
      · intro w' s0
        go_simp
        with_reducible rfl
      rotate_left
      · simp only [Act.put, List.setIfInBounds_toArray, List.set_cons_zero, List.set_cons_succ, i64_w, i32_w]
        rfl
      refine one_ (i := 8) (N := some 20) #[true, true, true, true, true, true, true, true, true, false] rfl rfl (by kernel_rfl) (by decide) (fun K hK => ?_)
      have hfc := find_calls (some ad) c (l.take k) s.id w5 HRT5.out (by have := HTLN.out; have := HK.out; have := HN.out; omega)
      rw [HTLN.out] at hfc
      refine goes_ Try.func31 (by kernel_rfl) rfl #[.slice (some ad) k c, .int .u64 s.id] (by rfl) rfl rfl (by simp only [List.map_toArray, List.map_cons, List.map_nil]; rfl) ?_
      with_reducible refine (hfc).mono ?_
      rintro ee w6 ⟨fi, rfl, hfi, rfl⟩
      refine ⟨_, rfl, ?_⟩
      have HFI := Lib.hid hfi
      clear hfc hfi
      refine hK.out _ _ (HX1.out) (fun hHeld => ?_)
      clear hK K
      refine norm_ (a' := ?_) ?_ ?_
      rotate_left
      · show Act.put _ (some 20) _ = _
        simp only [Act.put, List.setIfInBounds_toArray, List.set_cons_zero, List.set_cons_succ, i64_w, i32_w]
        rfl
      refine pure_ (i := 9) (N := some 21) (v := ?_) (a' := ?_) #[true, true, true, true, true, true, true, true, true, true] rfl rfl (by kernel_rfl) (fun _ _ _ h => h) (Or.inl ⟨by rfl, ?_⟩) ?_ ?_
      rotate_left
      · intro w'
        go_simp
        with_reducible rfl
      rotate_left
      · simp only [Act.put, List.setIfInBounds_toArray, List.set_cons_zero, List.set_cons_succ, i64_w, i32_w]
        rfl
      refine done_ (by kernel_rfl) ?_
      clear HRT HO HB kc
      rcases HFI.out with ⟨hh, hi⟩ | ⟨hh, rfl⟩
      · have HE := Lib.hid (show cnt (l.take (k + 1)) = o by rw [HTk.out, if_pos hh])
        clear hh
        go_wp2
        go_roundw
        case rel => exact ⟨k + 1, Ao, co, HK.out, by rw [HE.out], by rw [HW.out], Lib.hid (by rw [HE.out]; exact HO5.out), HB5⟩
        case measure => exact meas_up HN.out HK.out
      · have HE := Lib.hid (show cnt (l.take (k + 1)) = ins s o by rw [HTk.out, if_neg (by rw [hh]; decide)])
        clear hh HFI HRT5 HX1
        go_upto_region 6 with (fail)
        go_cut [5] from 5 to 5 (fun v5 wq => v5 = .int .i64 0 ∧ w5 = wq)
        case first =>
          go_wp2
          go_meet
          case rel => exact ⟨rfl, rfl⟩
        case rest =>
        obtain ⟨rfl, rfl⟩ := hcut
        apply_assumption
        refine wp_seq_k fun K9 hK9 => ?_
        go_cut [5] from 5 to 38 (fun v5 wq => ∃ j : Nat, v5 = .int .i64 j ∧ Hid (j ≤ o.length) ∧ Hid (∀ x ∈ o.take j, ltS x s = true) ∧ Hid (∀ x, o[j]? = some x → ltS x s = false) ∧ Hid (Kd.R kS 38 wq w.heap.size (fun _ => True) (.slice Ao o.length co) o) ∧ Hid (Below w.heap.size w wq))
        case first =>
          refine wp_block ?_
          go_loopw [5] (fun i wr => ∃ j : Nat, j ≤ o.length ∧ i = .int .i64 j ∧ Hid (∀ x ∈ o.take j, ltS x s = true) ∧ Hid (Kd.R kS 38 wr w.heap.size (fun _ => True) (.slice Ao o.length co) o) ∧ Hid (Below w.heap.size w wr)) (fun i _ => o.length - (intOf i).toNat)
          case atStart => exact ⟨0, by omega, rfl, Lib.hid (fun x hx => by simp at hx), HO5, HB5⟩
          case round =>
            clear HO5 HB5
            obtain ⟨j, hj, rfl, HJ, HO, HB⟩ := hrel
            by_cases hjl : j < o.length
            · obtain ⟨z, hz⟩ : ∃ z, o[j]? = some z := ⟨_, List.getElem?_eq_getElem hjl⟩
              have HGZ := Lib.hid hz
              have qj : decide ((j : Int) < (o.length : Int)) = true := decide_eq_true (by omega)
              have qj2 : (j : Int) < (o.length : Int) := by omega
              have HJK := Lib.hid (show j + 1 ≤ o.length by omega)
              have HON := Lib.hid (show o.length ≤ 1000000 by have := HOL.out; have := HK.out; have := HN.out; omega)
              have HWJ := Lib.hid (show wrap64 ((j : Int) + 1) = ((j + 1 : Nat) : Int) by have := HON.out; unfold wrap64; omega)
              have hro := Kd.C_below (Kd.R_reads' HO.out).2.2 (below_drew (Below.refl _ _))
              obtain ⟨ao, rfl, x0, x1, x2, x3, x4, x5, x6, x7, x8, x9, x10⟩ := at_S hro hz
              obtain ⟨ad2, he2, y0, y1, y2, y3, y4, y5, y6, y7, y8, y9, y10⟩ := at_S (Kd.C_below HR.out (below_drew HB.out)) HGS.out
              injection he2 with he2
              subst he2
              clear hz hjl hj hro
              go_upto_region 7 with (fail)
              refine start_ (n := 15) (S := fun w' => w'.cell? (ao.add (j * 11)) = some (.int .u64 z.tr) ∧ w'.cell? ⟨(ao.add (j * 11)).block, (ao.add (j * 11)).off + 1, none⟩ = some (.int .u64 z.id) ∧ w'.cell? ⟨(ao.add (j * 11)).block, (ao.add (j * 11)).off + 2, none⟩ = some (.int .u64 z.par) ∧ w'.cell? ⟨(ao.add (j * 11)).block, (ao.add (j * 11)).off + 3, none⟩ = some (.string z.svc) ∧ w'.cell? ⟨(ao.add (j * 11)).block, (ao.add (j * 11)).off + 4, none⟩ = some (.string z.op) ∧ w'.cell? ⟨(ao.add (j * 11)).block, (ao.add (j * 11)).off + 5, none⟩ = some (.int .i64 z.st) ∧ w'.cell? ⟨(ao.add (j * 11)).block, (ao.add (j * 11)).off + 6, none⟩ = some (.int .i64 z.du) ∧ w'.cell? ⟨(ao.add (j * 11)).block, (ao.add (j * 11)).off + 7, none⟩ = some (.int .i64 z.stt) ∧ w'.cell? ⟨(ao.add (j * 11)).block, (ao.add (j * 11)).off + 8, none⟩ = some (.slice z.a.1 z.a.2.1 z.a.2.2) ∧ w'.cell? ⟨(ao.add (j * 11)).block, (ao.add (j * 11)).off + 9, none⟩ = some (.slice z.e.1 z.e.2.1 z.e.2.2) ∧ w'.cell? ⟨(ao.add (j * 11)).block, (ao.add (j * 11)).off + 10, none⟩ = some (.slice z.l.1 z.l.2.1 z.l.2.2) ∧ w'.cell? (ad.add (k * 11)) = some (.int .u64 s.tr) ∧ w'.cell? ⟨(ad.add (k * 11)).block, (ad.add (k * 11)).off + 1, none⟩ = some (.int .u64 s.id) ∧ w'.cell? ⟨(ad.add (k * 11)).block, (ad.add (k * 11)).off + 2, none⟩ = some (.int .u64 s.par) ∧ w'.cell? ⟨(ad.add (k * 11)).block, (ad.add (k * 11)).off + 3, none⟩ = some (.string s.svc) ∧ w'.cell? ⟨(ad.add (k * 11)).block, (ad.add (k * 11)).off + 4, none⟩ = some (.string s.op) ∧ w'.cell? ⟨(ad.add (k * 11)).block, (ad.add (k * 11)).off + 5, none⟩ = some (.int .i64 s.st) ∧ w'.cell? ⟨(ad.add (k * 11)).block, (ad.add (k * 11)).off + 6, none⟩ = some (.int .i64 s.du) ∧ w'.cell? ⟨(ad.add (k * 11)).block, (ad.add (k * 11)).off + 7, none⟩ = some (.int .i64 s.stt) ∧ w'.cell? ⟨(ad.add (k * 11)).block, (ad.add (k * 11)).off + 8, none⟩ = some (.slice s.a.1 s.a.2.1 s.a.2.2) ∧ w'.cell? ⟨(ad.add (k * 11)).block, (ad.add (k * 11)).off + 9, none⟩ = some (.slice s.e.1 s.e.2.1 s.e.2.2) ∧ w'.cell? ⟨(ad.add (k * 11)).block, (ad.add (k * 11)).off + 10, none⟩ = some (.slice s.l.1 s.l.2.1 s.l.2.2)) (ds := []) #[false, false, false, false, false, false, false, false, false, false, false, false, false, false, false] (by kernel_rfl) rfl rfl ⟨x0, x1, x2, x3, x4, x5, x6, x7, x8, x9, x10, y0, y1, y2, y3, y4, y5, y6, y7, y8, y9, y10⟩ (fun hHeld => ?_)
              generalize hwe : wr.drew = w6 at x0 x1 x2 x3 x4 x5 x6 x7 x8 x9 x10 y0 y1 y2 y3 y4 y5 y6 y7 y8 y9 y10 hHeld ⊢
              have HB6 := Lib.hid (show Below w.heap.size w w6 by rw [← hwe]; exact below_drew HB.out)
              have HO6 := Lib.hid (show Kd.R kS 38 w6 w.heap.size (fun _ => True) (.slice (some ao) o.length co) o by rw [← hwe]; exact Kd.R_drew HO.out)
              clear hwe x0 x1 x2 x3 x4 x5 x6 x7 x8 x9 x10 y0 y1 y2 y3 y4 y5 y6 y7 y8 y9 y10
              refine pure_ (i := 0) (N := some 22) (v := ?_) (a' := ?_) #[true, false, false, false, false, false, false, false, false, false, false, false, false, false, false] rfl rfl (by kernel_rfl) (fun _ _ _ h => h) (Or.inl ⟨by rfl, ?_⟩) ?_ ?_
              rotate_left
              · intro w'
                go_simp
                with_reducible rfl
              rotate_left
              · simp only [Act.put, List.setIfInBounds_toArray, List.set_cons_zero, List.set_cons_succ, i64_w, i32_w]
                rfl
              refine pure_ (i := 1) (N := some 23) (v := ?_) (a' := ?_) #[true, true, false, false, false, false, false, false, false, false, false, false, false, false, false] rfl rfl (by kernel_rfl) (fun _ _ _ h => h) (Or.inl ⟨by rfl, ?_⟩) ?_ ?_
              rotate_left
              · intro w'
                go_simp
                with_reducible rfl
              rotate_left
              · simp only [Act.put, List.setIfInBounds_toArray, List.set_cons_zero, List.set_cons_succ, i64_w, i32_w]
                rfl
              refine pure_ (i := 2) (N := some 24) (v := ?_) (a' := ?_) #[true, true, true, false, false, false, false, false, false, false, false, false, false, false, false] rfl rfl (by kernel_rfl) (fun _ _ _ h => h) (Or.inl ⟨by rfl, ?_⟩) ?_ ?_
              rotate_left
              · intro w'
                go_simp
                with_reducible rfl
              rotate_left
              · simp only [Act.put, List.setIfInBounds_toArray, List.set_cons_zero, List.set_cons_succ, i64_w, i32_w]
                rfl
              refine pure_ (i := 3) (N := some 25) (v := ?_) (a' := ?_) #[true, true, true, true, false, false, false, false, false, false, false, false, false, false, false] rfl rfl (by kernel_rfl) (fun _ _ _ h => h) (Or.inl ⟨by rfl, ?_⟩) ?_ ?_
              rotate_left
              · intro w'
                go_simp
                with_reducible rfl
              rotate_left
              · simp only [Act.put, List.setIfInBounds_toArray, List.set_cons_zero, List.set_cons_succ, i64_w, i32_w]
                rfl
              refine pure_ (i := 4) (N := some 26) (v := ?_) (a' := ?_) #[true, true, true, true, true, false, false, false, false, false, false, false, false, false, false] rfl rfl (by kernel_rfl) (fun _ _ _ h => h) (Or.inl ⟨by rfl, ?_⟩) ?_ ?_
              rotate_left
              · intro w'
                go_simp
                with_reducible rfl
              rotate_left
              · simp only [Act.put, List.setIfInBounds_toArray, List.set_cons_zero, List.set_cons_succ, i64_w, i32_w]
                rfl
              refine pure_ (i := 5) (N := some 27) (v := ?_) (a' := ?_) #[true, true, true, true, true, true, false, false, false, false, false, false, false, false, false] rfl rfl (by kernel_rfl) (fun _ _ _ h => h) (Or.inl ⟨by rfl, ?_⟩) ?_ ?_
              rotate_left
              · intro w'
                go_simp
                with_reducible rfl
              rotate_left
              · simp only [Act.put, List.setIfInBounds_toArray, List.set_cons_zero, List.set_cons_succ, i64_w, i32_w]
                rfl
              refine pure_ (i := 6) (N := some 28) (v := ?_) (a' := ?_) #[true, true, true, true, true, true, true, false, false, false, false, false, false, false, false] rfl rfl (by kernel_rfl) (fun _ _ _ h => h) (Or.inl ⟨by rfl, ?_⟩) ?_ ?_
              rotate_left
              · intro w'
                go_simp
                with_reducible rfl
              rotate_left
              · simp only [Act.put, List.setIfInBounds_toArray, List.set_cons_zero, List.set_cons_succ, i64_w, i32_w]
                rfl
              refine pure_ (i := 7) (N := some 29) (v := ?_) (a' := ?_) #[true, true, true, true, true, true, true, true, false, false, false, false, false, false, false] rfl rfl (by kernel_rfl) (fun _ _ _ h => h) (Or.inl ⟨by rfl, ?_⟩) ?_ ?_
              rotate_left
              · intro w'
                go_simp
                with_reducible rfl
              rotate_left
              · simp only [Act.put, List.setIfInBounds_toArray, List.set_cons_zero, List.set_cons_succ, i64_w, i32_w]
                rfl
              refine pure_ (i := 9) (N := some 31) (v := ?_) (a' := ?_) #[true, true, true, true, true, true, true, true, false, true, false, false, false, false, false] rfl rfl (by kernel_rfl) (fun _ _ _ h => h) (Or.inl ⟨by rfl, ?_⟩) ?_ ?_
              rotate_left
              · intro w'
                go_simp
                with_reducible rfl
              rotate_left
              · simp only [Act.put, List.setIfInBounds_toArray, List.set_cons_zero, List.set_cons_succ, i64_w, i32_w]
                rfl
              refine pure_ (i := 10) (N := some 32) (v := ?_) (a' := ?_) #[true, true, true, true, true, true, true, true, false, true, true, false, false, false, false] rfl rfl (by kernel_rfl) (fun _ _ _ h => h) (Or.inl ⟨by rfl, ?_⟩) ?_ ?_
              rotate_left
              · intro w'
                go_simp
                with_reducible rfl
              rotate_left
              · simp only [Act.put, List.setIfInBounds_toArray, List.set_cons_zero, List.set_cons_succ, i64_w, i32_w]
                rfl
              refine pure_ (i := 11) (N := some 33) (v := ?_) (a' := ?_) #[true, true, true, true, true, true, true, true, false, true, true, true, false, false, false] rfl rfl (by kernel_rfl) (fun _ _ _ h => h) (Or.inl ⟨by rfl, ?_⟩) ?_ ?_
              rotate_left
              · intro w'
                go_simp
                with_reducible rfl
              rotate_left
              · simp only [Act.put, List.setIfInBounds_toArray, List.set_cons_zero, List.set_cons_succ, i64_w, i32_w]
                rfl
              refine take_ (i := 8) (N := some 30) (v := ?_) (a' := ?_) #[true, true, true, true, true, true, true, true, true, true, true, true, false, false, false] rfl rfl (by kernel_rfl) (fun _ _ _ h => h) (Or.inl ⟨by rfl, ?_⟩) hHeld ?_ ?_
              rotate_left
              · rintro w' ⟨s0, s1, s2, s3, s4, s5, s6, s7, s8, s9, s10, s11, s12, s13, s14, s15, s16, s17, s18, s19, s20, s21⟩
                go_simp
                with_reducible rfl
              rotate_left
              · simp only [Act.put, List.setIfInBounds_toArray, List.set_cons_zero, List.set_cons_succ, i64_w, i32_w]
                rfl
              refine take_ (i := 12) (N := some 34) (v := ?_) (a' := ?_) #[true, true, true, true, true, true, true, true, true, true, true, true, true, false, false] rfl rfl (by kernel_rfl) (fun _ _ _ h => h) (Or.inl ⟨by rfl, ?_⟩) hHeld ?_ ?_
              rotate_left
              · rintro w' ⟨s0, s1, s2, s3, s4, s5, s6, s7, s8, s9, s10, s11, s12, s13, s14, s15, s16, s17, s18, s19, s20, s21⟩
                go_simp
                with_reducible rfl
              rotate_left
              · simp only [Act.put, List.setIfInBounds_toArray, List.set_cons_zero, List.set_cons_succ, i64_w, i32_w]
                rfl
              refine one_ (i := 13) (N := some 35) #[true, true, true, true, true, true, true, true, true, true, true, true, true, true, false] rfl rfl (by kernel_rfl) (by decide) (fun K hK => ?_)
              have hah := ahead_calls z s w6
              rw [arr_S, arr_S] at hah
              refine goes_ Try.func32 (by kernel_rfl) rfl #[.agg #[.int .u64 z.tr, .int .u64 z.id, .int .u64 z.par, .string z.svc, .string z.op, .int .i64 z.st, .int .i64 z.du, .int .i64 z.stt, .slice z.a.1 z.a.2.1 z.a.2.2, .slice z.e.1 z.e.2.1 z.e.2.2, .slice z.l.1 z.l.2.1 z.l.2.2], .agg #[.int .u64 s.tr, .int .u64 s.id, .int .u64 s.par, .string s.svc, .string s.op, .int .i64 s.st, .int .i64 s.du, .int .i64 s.stt, .slice s.a.1 s.a.2.1 s.a.2.2, .slice s.e.1 s.e.2.1 s.e.2.2, .slice s.l.1 s.l.2.1 s.l.2.2]] (by rfl) rfl rfl (by simp only [List.map_toArray, List.map_cons, List.map_nil]; rfl) ?_
              with_reducible refine (hah).mono ?_
              rintro ee w7 ⟨rfl, hb7⟩
              refine ⟨_, rfl, ?_⟩
              have HB7 := Lib.hid (below_step HB6.out hb7)
              have HO7 := Lib.hid (Kd.R_below HO6.out hb7)
              clear hah hb7
              obtain ⟨ad2, he2, x0, x1, x2, x3, x4, x5, x6, x7, x8, x9, x10⟩ := at_S (Kd.R_reads' HO7.out).2.2 HGZ.out
              injection he2 with he2
              subst he2
              obtain ⟨ad2, he2, y0, y1, y2, y3, y4, y5, y6, y7, y8, y9, y10⟩ := at_S (Kd.C_below HR.out HB7.out) HGS.out
              injection he2 with he2
              subst he2
              refine hK.out _ _ ⟨x0, x1, x2, x3, x4, x5, x6, x7, x8, x9, x10, y0, y1, y2, y3, y4, y5, y6, y7, y8, y9, y10⟩ (fun hHeld => ?_)
              clear hK K
              refine norm_ (a' := ?_) ?_ ?_
              rotate_left
              · show Act.put _ (some 35) _ = _
                simp only [Act.put, List.setIfInBounds_toArray, List.set_cons_zero, List.set_cons_succ, i64_w, i32_w]
                rfl
              refine pure_ (i := 14) (N := some 36) (v := ?_) (a' := ?_) #[true, true, true, true, true, true, true, true, true, true, true, true, true, true, true] rfl rfl (by kernel_rfl) (fun _ _ _ h => h) (Or.inl ⟨by rfl, ?_⟩) ?_ ?_
              rotate_left
              · intro w'
                go_simp
                with_reducible rfl
              rotate_left
              · simp only [Act.put, List.setIfInBounds_toArray, List.set_cons_zero, List.set_cons_succ, i64_w, i32_w]
                rfl
              refine done_ (by kernel_rfl) ?_
              clear x0 x1 x2 x3 x4 x5 x6 x7 x8 x9 x10 y0 y1 y2 y3 y4 y5 y6 y7 y8 y9 y10
              cases hlz : ltS z s with
              | true =>
                have HLZ := Lib.hid hlz
                clear hlz
                go_wp2
                go_roundw
                case rel => exact ⟨j + 1, HJK.out, by rw [HWJ.out], Lib.hid (by
                  obtain ⟨hk2, e⟩ := List.getElem?_eq_some_iff.1 HGZ.out
                  rw [List.take_succ_eq_append_getElem hk2, e]
                  intro y hy
                  rcases List.mem_append.1 hy with hy | hy
                  · exact HJ.out y hy
                  · rw [List.mem_singleton.1 hy]; exact HLZ.out), HO7, HB7⟩
                case measure => exact meas_up HON.out HJK.out
              | false =>
                have HLZ := Lib.hid hlz
                clear hlz
                go_wp2
                go_meet
                case rel => exact ⟨j, rfl, Lib.hid (by have := HJK.out; omega), HJ, Lib.hid (fun y hy => by rw [HGZ.out] at hy; injection hy with hy; rw [← hy]; exact HLZ.out), HO7, HB7⟩
            · have hje : j = o.length := by omega
              subst hje
              have qj : decide ((o.length : Int) < (o.length : Int)) = false := decide_eq_false (by omega)
              have HTO := Lib.hid HJ.out
              rw [List.take_length] at HTO
              clear hjl hj
              go_upto_region 7 with (fail)
              refine start_ (n := 15) (S := fun w' => True) (ds := []) #[false, false, false, false, false, false, false, false, false, false, false, false, false, false, false] (by kernel_rfl) rfl rfl trivial (fun hHeld => ?_)
              generalize hwe : wr.drew = w6 at hHeld ⊢
              have HB6 := Lib.hid (show Below w.heap.size w w6 by rw [← hwe]; exact below_drew HB.out)
              have HO6 := Lib.hid (show Kd.R kS 38 w6 w.heap.size (fun _ => True) (.slice Ao o.length co) o by rw [← hwe]; exact Kd.R_drew HO.out)
              clear hwe
              refine pure_ (i := 0) (N := some 22) (v := ?_) (a' := ?_) #[true, false, false, false, false, false, false, false, false, false, false, false, false, false, false] rfl rfl (by kernel_rfl) (fun _ _ _ h => h) (Or.inl ⟨by rfl, ?_⟩) ?_ ?_
              rotate_left
              · intro w'
                go_simp
                with_reducible rfl
              rotate_left
              · simp only [Act.put, List.setIfInBounds_toArray, List.set_cons_zero, List.set_cons_succ, i64_w, i32_w]
                rfl
              refine pure_ (i := 1) (N := some 23) (v := ?_) (a' := ?_) #[true, true, false, false, false, false, false, false, false, false, false, false, false, false, false] rfl rfl (by kernel_rfl) (fun _ _ _ h => h) (Or.inl ⟨by rfl, ?_⟩) ?_ ?_
              rotate_left
              · intro w'
                go_simp
                with_reducible rfl
              rotate_left
              · simp only [Act.put, List.setIfInBounds_toArray, List.set_cons_zero, List.set_cons_succ, i64_w, i32_w]
                rfl
              refine pure_ (i := 2) (N := some 24) (v := ?_) (a' := ?_) #[true, true, true, false, false, false, false, false, false, false, false, false, false, false, false] rfl rfl (by kernel_rfl) (fun _ _ _ h => h) (Or.inl ⟨by rfl, ?_⟩) ?_ ?_
              rotate_left
              · intro w'
                go_simp
                with_reducible rfl
              rotate_left
              · simp only [Act.put, List.setIfInBounds_toArray, List.set_cons_zero, List.set_cons_succ, i64_w, i32_w]
                rfl
              refine pure_ (i := 3) (N := some 25) (v := ?_) (a' := ?_) #[true, true, true, true, false, false, false, false, false, false, false, false, false, false, false] rfl rfl (by kernel_rfl) (fun _ _ _ h => h) (Or.inl ⟨by rfl, ?_⟩) ?_ ?_
              rotate_left
              · intro w'
                go_simp
                with_reducible rfl
              rotate_left
              · simp only [Act.put, List.setIfInBounds_toArray, List.set_cons_zero, List.set_cons_succ, i64_w, i32_w]
                rfl
              refine pure_ (i := 4) (N := some 26) (v := ?_) (a' := ?_) #[true, true, true, true, true, false, false, false, false, false, false, false, false, false, false] rfl rfl (by kernel_rfl) (fun _ _ _ h => h) (Or.inl ⟨by rfl, ?_⟩) ?_ ?_
              rotate_left
              · intro w'
                go_simp
                with_reducible rfl
              rotate_left
              · simp only [Act.put, List.setIfInBounds_toArray, List.set_cons_zero, List.set_cons_succ, i64_w, i32_w]
                rfl
              refine pure_ (i := 5) (N := some 27) (v := undef) (a' := ?_) #[true, true, true, true, true, true, false, false, false, false, false, false, false, false, false] rfl rfl (by kernel_rfl) (fun _ _ _ h => h) (Or.inr ⟨by rfl, rfl⟩) ?_ ?_
              rotate_left
              · simp only [Act.put, List.setIfInBounds_toArray, List.set_cons_zero, List.set_cons_succ, i64_w, i32_w]
                rfl
              refine pure_ (i := 6) (N := some 28) (v := undef) (a' := ?_) #[true, true, true, true, true, true, true, false, false, false, false, false, false, false, false] rfl rfl (by kernel_rfl) (fun _ _ _ h => h) (Or.inr ⟨by rfl, rfl⟩) ?_ ?_
              rotate_left
              · simp only [Act.put, List.setIfInBounds_toArray, List.set_cons_zero, List.set_cons_succ, i64_w, i32_w]
                rfl
              refine pure_ (i := 7) (N := some 29) (v := undef) (a' := ?_) #[true, true, true, true, true, true, true, true, false, false, false, false, false, false, false] rfl rfl (by kernel_rfl) (fun _ _ _ h => h) (Or.inr ⟨by rfl, rfl⟩) ?_ ?_
              rotate_left
              · simp only [Act.put, List.setIfInBounds_toArray, List.set_cons_zero, List.set_cons_succ, i64_w, i32_w]
                rfl
              refine pure_ (i := 8) (N := some 30) (v := undef) (a' := ?_) #[true, true, true, true, true, true, true, true, true, false, false, false, false, false, false] rfl rfl (by kernel_rfl) (fun _ _ _ h => h) (Or.inr ⟨by rfl, rfl⟩) ?_ ?_
              rotate_left
              · simp only [Act.put, List.setIfInBounds_toArray, List.set_cons_zero, List.set_cons_succ, i64_w, i32_w]
                rfl
              refine pure_ (i := 9) (N := some 31) (v := undef) (a' := ?_) #[true, true, true, true, true, true, true, true, true, true, false, false, false, false, false] rfl rfl (by kernel_rfl) (fun _ _ _ h => h) (Or.inr ⟨by rfl, rfl⟩) ?_ ?_
              rotate_left
              · simp only [Act.put, List.setIfInBounds_toArray, List.set_cons_zero, List.set_cons_succ, i64_w, i32_w]
                rfl
              refine pure_ (i := 10) (N := some 32) (v := undef) (a' := ?_) #[true, true, true, true, true, true, true, true, true, true, true, false, false, false, false] rfl rfl (by kernel_rfl) (fun _ _ _ h => h) (Or.inr ⟨by rfl, rfl⟩) ?_ ?_
              rotate_left
              · simp only [Act.put, List.setIfInBounds_toArray, List.set_cons_zero, List.set_cons_succ, i64_w, i32_w]
                rfl
              refine pure_ (i := 11) (N := some 33) (v := undef) (a' := ?_) #[true, true, true, true, true, true, true, true, true, true, true, true, false, false, false] rfl rfl (by kernel_rfl) (fun _ _ _ h => h) (Or.inr ⟨by rfl, rfl⟩) ?_ ?_
              rotate_left
              · simp only [Act.put, List.setIfInBounds_toArray, List.set_cons_zero, List.set_cons_succ, i64_w, i32_w]
                rfl
              refine pure_ (i := 12) (N := some 34) (v := undef) (a' := ?_) #[true, true, true, true, true, true, true, true, true, true, true, true, true, false, false] rfl rfl (by kernel_rfl) (fun _ _ _ h => h) (Or.inr ⟨by rfl, rfl⟩) ?_ ?_
              rotate_left
              · simp only [Act.put, List.setIfInBounds_toArray, List.set_cons_zero, List.set_cons_succ, i64_w, i32_w]
                rfl
              refine pure_ (i := 13) (N := some 35) (v := undef) (a' := ?_) #[true, true, true, true, true, true, true, true, true, true, true, true, true, true, false] rfl rfl (by kernel_rfl) (fun _ _ _ h => h) (Or.inr ⟨by rfl, rfl⟩) ?_ ?_
              rotate_left
              · simp only [Act.put, List.setIfInBounds_toArray, List.set_cons_zero, List.set_cons_succ, i64_w, i32_w]
                rfl
              refine pure_ (i := 14) (N := some 36) (v := ?_) (a' := ?_) #[true, true, true, true, true, true, true, true, true, true, true, true, true, true, true] rfl rfl (by kernel_rfl) (fun _ _ _ h => h) (Or.inl ⟨by rfl, ?_⟩) ?_ ?_
              rotate_left
              · intro w'
                go_simp
                with_reducible rfl
              rotate_left
              · simp only [Act.put, List.setIfInBounds_toArray, List.set_cons_zero, List.set_cons_succ, i64_w, i32_w]
                rfl
              refine done_ (by kernel_rfl) ?_
              go_wp2
              go_meet
              case rel => exact ⟨o.length, rfl, Lib.hid (Nat.le_refl _), HJ, Lib.hid (fun y hy => by simp at hy), HO6, HB6⟩
        clear HO5 HB5
        obtain ⟨j, rfl, HJL, HJA, HJN, HO8, HB8⟩ := hcut
        have HIN := Lib.hid (show ins s o = o.take j ++ s :: o.drop j from ins_at s o j HJL.out HJA.out HJN.out)
        apply hK9
        have hco := (Kd.R_reads' HO8.out).2.1
        have hjl := HJL.out
        have kc1 := cut_to (P := Try.prog) 22 38 .i64 Try.underlying22 HINF.out Ao o.length co (j : Int) (by omega) (by omega) hco
        have kc2 := cut_from (P := Try.prog) 22 38 .i64 Try.underlying22 HINF.out 11 HSZ.out Ao o.length co (j : Int) (by omega) (by omega)
        rw [Int.toNat_natCast] at kc1 kc2
        obtain ⟨A2, hA2⟩ : ∃ A2, (if co = j then Ao else Ao.map (·.add (j * 11))) = A2 := ⟨_, rfl⟩
        rw [hA2] at kc2
        have HA2 := Lib.hid hA2
        clear hA2 hco hjl
        go_upto_region 9 with (fail)
        have HTJ := Lib.hid (show (o.take j).length = j by have := HJL.out; rw [List.length_take]; omega)
        obtain ⟨ad2, he2, x0, x1, x2, x3, x4, x5, x6, x7, x8, x9, x10⟩ := at_S (Kd.C_below HR.out (below_drew HB8.out)) HGS.out
        injection he2 with he2
        subst he2
        refine start_ (n := 16) (S := fun w' => w'.cell? (ad.add (k * 11)) = some (.int .u64 s.tr) ∧ w'.cell? ⟨(ad.add (k * 11)).block, (ad.add (k * 11)).off + 1, none⟩ = some (.int .u64 s.id) ∧ w'.cell? ⟨(ad.add (k * 11)).block, (ad.add (k * 11)).off + 2, none⟩ = some (.int .u64 s.par) ∧ w'.cell? ⟨(ad.add (k * 11)).block, (ad.add (k * 11)).off + 3, none⟩ = some (.string s.svc) ∧ w'.cell? ⟨(ad.add (k * 11)).block, (ad.add (k * 11)).off + 4, none⟩ = some (.string s.op) ∧ w'.cell? ⟨(ad.add (k * 11)).block, (ad.add (k * 11)).off + 5, none⟩ = some (.int .i64 s.st) ∧ w'.cell? ⟨(ad.add (k * 11)).block, (ad.add (k * 11)).off + 6, none⟩ = some (.int .i64 s.du) ∧ w'.cell? ⟨(ad.add (k * 11)).block, (ad.add (k * 11)).off + 7, none⟩ = some (.int .i64 s.stt) ∧ w'.cell? ⟨(ad.add (k * 11)).block, (ad.add (k * 11)).off + 8, none⟩ = some (.slice s.a.1 s.a.2.1 s.a.2.2) ∧ w'.cell? ⟨(ad.add (k * 11)).block, (ad.add (k * 11)).off + 9, none⟩ = some (.slice s.e.1 s.e.2.1 s.e.2.2) ∧ w'.cell? ⟨(ad.add (k * 11)).block, (ad.add (k * 11)).off + 10, none⟩ = some (.slice s.l.1 s.l.2.1 s.l.2.2)) (ds := []) #[false, false, false, false, false, false, false, false, false, false, false, false, false, false, false, false] (by kernel_rfl) rfl rfl ⟨x0, x1, x2, x3, x4, x5, x6, x7, x8, x9, x10⟩ (fun hHeld => ?_)
        generalize hwe : wc.drew = w5 at x0 x1 x2 x3 x4 x5 x6 x7 x8 x9 x10 hHeld ⊢
        have HB := Lib.hid (show Below w.heap.size w w5 by rw [← hwe]; exact below_drew HB8.out)
        have HO := Lib.hid (show Kd.R kS 38 w5 w.heap.size (fun _ => True) (.slice Ao o.length co) o by rw [← hwe]; exact Kd.R_drew HO8.out)
        clear hwe x0 x1 x2 x3 x4 x5 x6 x7 x8 x9 x10
        refine pure_ (i := 1) (N := some 40) (v := ?_) (a' := ?_) #[false, true, false, false, false, false, false, false, false, false, false, false, false, false, false, false] rfl rfl (by kernel_rfl) (fun _ _ _ h => h) (Or.inl ⟨by rfl, ?_⟩) ?_ ?_
        rotate_left
        · intro w'
          go_simp
          with_reducible rfl
        rotate_left
        · simp only [Act.put, List.setIfInBounds_toArray, List.set_cons_zero, List.set_cons_succ, i64_w, i32_w]
          rfl
        refine pure_ (i := 2) (N := some 41) (v := ?_) (a' := ?_) #[false, true, true, false, false, false, false, false, false, false, false, false, false, false, false, false] rfl rfl (by kernel_rfl) (fun _ _ _ h => h) (Or.inl ⟨by rfl, ?_⟩) ?_ ?_
        rotate_left
        · intro w'
          go_simp
          with_reducible rfl
        rotate_left
        · simp only [Act.put, List.setIfInBounds_toArray, List.set_cons_zero, List.set_cons_succ, i64_w, i32_w]
          rfl
        refine pure_ (i := 3) (N := some 42) (v := ?_) (a' := ?_) #[false, true, true, true, false, false, false, false, false, false, false, false, false, false, false, false] rfl rfl (by kernel_rfl) (fun _ _ _ h => h) (Or.inl ⟨by rfl, ?_⟩) ?_ ?_
        rotate_left
        · intro w'
          go_simp
          with_reducible rfl
        rotate_left
        · simp only [Act.put, List.setIfInBounds_toArray, List.set_cons_zero, List.set_cons_succ, i64_w, i32_w]
          rfl
        refine pure_ (i := 5) (N := some 44) (v := ?_) (a' := ?_) #[false, true, true, true, false, true, false, false, false, false, false, false, false, false, false, false] rfl rfl (by kernel_rfl) (fun _ _ _ h => h) (Or.inl ⟨by rfl, ?_⟩) ?_ ?_
        rotate_left
        · intro w'
          go_simp
          with_reducible rfl
        rotate_left
        · simp only [Act.put, List.setIfInBounds_toArray, List.set_cons_zero, List.set_cons_succ, i64_w, i32_w]
          rfl
        refine pure_ (i := 6) (N := some 45) (v := ?_) (a' := ?_) #[false, true, true, true, false, true, true, false, false, false, false, false, false, false, false, false] rfl rfl (by kernel_rfl) (fun _ _ _ h => h) (Or.inl ⟨by rfl, ?_⟩) ?_ ?_
        rotate_left
        · intro w'
          go_simp
          with_reducible rfl
        rotate_left
        · simp only [Act.put, List.setIfInBounds_toArray, List.set_cons_zero, List.set_cons_succ, i64_w, i32_w]
          rfl
        refine pure_ (i := 7) (N := some 46) (v := ?_) (a' := ?_) #[false, true, true, true, false, true, true, true, false, false, false, false, false, false, false, false] rfl rfl (by kernel_rfl) (fun _ _ _ h => h) (Or.inl ⟨by rfl, ?_⟩) ?_ ?_
        rotate_left
        · intro w'
          go_simp
          with_reducible rfl
        rotate_left
        · simp only [Act.put, List.setIfInBounds_toArray, List.set_cons_zero, List.set_cons_succ, i64_w, i32_w]
          rfl
        refine pure_ (i := 11) (N := some 50) (v := ?_) (a' := ?_) #[false, true, true, true, false, true, true, true, false, false, false, true, false, false, false, false] rfl rfl (by kernel_rfl) (fun _ _ _ h => h) (Or.inl ⟨by rfl, ?_⟩) ?_ ?_
        rotate_left
        · intro w'
          go_simp
          with_reducible rfl
        rotate_left
        · simp only [Act.put, List.setIfInBounds_toArray, List.set_cons_zero, List.set_cons_succ, i64_w, i32_w]
          rfl
        refine pure_ (i := 12) (N := some 51) (v := ?_) (a' := ?_) #[false, true, true, true, false, true, true, true, false, false, false, true, true, false, false, false] rfl rfl (by kernel_rfl) (fun _ _ _ h => h) (Or.inl ⟨by rfl, ?_⟩) ?_ ?_
        rotate_left
        · intro w'
          go_simp
          with_reducible rfl
        rotate_left
        · simp only [Act.put, List.setIfInBounds_toArray, List.set_cons_zero, List.set_cons_succ, i64_w, i32_w]
          rfl
        refine pure_ (i := 13) (N := some 52) (v := ?_) (a' := ?_) #[false, true, true, true, false, true, true, true, false, false, false, true, true, true, false, false] rfl rfl (by kernel_rfl) (fun _ _ _ h => h) (Or.inl ⟨by rfl, ?_⟩) ?_ ?_
        rotate_left
        · intro w'
          go_simp
          with_reducible rfl
        rotate_left
        · simp only [Act.put, List.setIfInBounds_toArray, List.set_cons_zero, List.set_cons_succ, i64_w, i32_w]
          rfl
        refine take_ (i := 8) (N := some 47) (v := ?_) (a' := ?_) #[false, true, true, true, false, true, true, true, true, false, false, true, true, true, false, false] rfl rfl (by kernel_rfl) (fun _ _ _ h => h) (Or.inl ⟨by rfl, ?_⟩) hHeld ?_ ?_
        rotate_left
        · rintro w' ⟨s0, s1, s2, s3, s4, s5, s6, s7, s8, s9, s10⟩
          go_simp
          with_reducible rfl
        rotate_left
        · simp only [Act.put, List.setIfInBounds_toArray, List.set_cons_zero, List.set_cons_succ, i64_w, i32_w]
          rfl
        refine join_ (σ := Value × Value × (Option Addr × Nat)) 3 #[true, true, true, true, true, true, true, true, true, true, false, true, true, true, false, false] (fun s_ => [(39, s_.1), (43, s_.2.1), (48, .slice s_.2.2.1 1 s_.2.2.2)]) (fun s_ w' => Kd.R kS 38 w' w.heap.size (fun _ => True) s_.2.1 (o.take j) ∧ Kd.R kS 38 w' w.heap.size (fun _ => True) (.slice s_.2.2.1 1 s_.2.2.2) [s] ∧ Kd.R kS 38 w' w.heap.size (fun _ => True) (.slice Ao o.length co) o ∧ Below w.heap.size w w' ∧ (∀ k, s_.2.1.ownBlock = some k → (Value.slice Ao o.length co).ownBlock ≠ some k) ∧ (∀ k, s_.2.1.ownBlock = some k → (Value.slice s_.2.2.1 1 s_.2.2.2).ownBlock ≠ some k)) ?_ ?_
        rotate_left
        · intro hCont
          refine two_ (i := 0) (j := 9) (Ni := some 39) (Nj := some 48) #[true, true, true, true, false, true, true, true, true, false, false, true, true, true, false, false] #[false, true, true, true, false, true, true, true, true, true, false, true, true, true, false, false] rfl rfl rfl rfl (by kernel_rfl) (by decide) (by decide) (fun K hK => ?_) (fun K hK => ?_)
          · skip
            refine Kd.R_lit_step kS (w0 := w5) w.heap.size 38 ?hg (N := 39) ?hd (xs := ([] : List Sp)) (inner := []) (ok := fun _ => True) (okp := fun _ => True) ?hr ?hp (fun _ hk => hk) trivial (Below.refl _ _) HB.out.size (by simp) ?_; (case hd => rfl); (case hg => rfl); (case hr => first | (go_simp; done) | (go_simp; rfl)); (case hp => exact (Reps.none _ _))
            intro v0_0 w5_0 ho hb hg_ hnew_
            have hbl : Below w5.heap.size w5 w5_0 := Below.grown (Below.refl _ _) hg_ (Nat.le_refl _) (fun _ h => by cases h)
            obtain ⟨bn, hbn, hbn2⟩ := hnew_
            have HV0_0 := Lib.hid ho
            have HD0_0 := Lib.hid (show ∀ k, v0_0.ownBlock = some k → (Value.slice Ao o.length co).ownBlock ≠ some k from fun k hk e => (by have h1 := (row_lt HO.out k e).2; rw [hbn] at hk; injection hk with hk; omega))
            have HB_0 := Lib.hid (below_step HB.out hbl)
            have HO_0 := Lib.hid (Kd.R_below HO.out hbl)
            clear ho hb hg_ hbl hbn hbn2
            obtain ⟨ad2, he2, x0, x1, x2, x3, x4, x5, x6, x7, x8, x9, x10⟩ := at_S (Kd.C_below HR.out HB_0.out) HGS.out
            injection he2 with he2
            subst he2
            refine hK.out _ _ ⟨x0, x1, x2, x3, x4, x5, x6, x7, x8, x9, x10⟩ (fun hHeld => ?_)
            clear hK K
            refine norm_ (a' := ?_) ?_ ?_
            rotate_left
            · show Act.put _ (some 39) _ = _
              simp only [Act.put, List.setIfInBounds_toArray, List.set_cons_zero, List.set_cons_succ, i64_w, i32_w]
              rfl
            refine two_ (i := 4) (j := 9) (Ni := some 43) (Nj := some 48) #[true, true, true, true, true, true, true, true, true, false, false, true, true, true, false, false] #[true, true, true, true, false, true, true, true, true, true, false, true, true, true, false, false] rfl rfl rfl rfl (by kernel_rfl) (by decide) (by decide) (fun K hK => ?_) (fun K hK => ?_)
            · skip
              refine Kd.R_append_rows_step kS (w0 := w5_0) w.heap.size (by rfl) (.tmp 39) (.tmp 42) 22 38 (.agg #[(.int .u64 0), (.int .u64 0), (.int .u64 0), (.string ⟨#[]⟩), (.string ⟨#[]⟩), (.int .i64 0), (.int .i64 0), (.int .i64 0), (.slice none 0 0), (.slice none 0 0), (.slice none 0 0)]) 152 (by rfl) Try.underlying22 infoS rfl (by decide) (by omega) v0_0 [] (o.take j) Ao j co (fun _ => True) (fun _ => False) (by rfl) (by rfl) HV0_0.out (by have h := Kd.C_take (Kd.R_reads' HO_0.out).2.2 HJL.out; rw [HTJ.out] at h; exact h) (fun x_ cs_ h_ => h_) (fun _ h => h.elim) (fun _ _ => trivial) (Below.refl _ _) HB_0.out.size (by have h1 := HJL.out; have h2 := HOL.out; have h3 := HK.out; have h4 := HN.out; simp; omega) ?_
              intro v4_04 w5_04 ho hb hg_ hnew_
              rw [List.nil_append] at ho
              have HV4_04 := Lib.hid ho
              have HE0_04 := Lib.hid (show ∀ k, v4_04.ownBlock = some k → (Value.slice Ao o.length co).ownBlock ≠ some k from fun k hk e => hnew_.elim (fun h => HD0_0.out k (h.symm.trans hk) e) (fun ⟨b_, h1, h2⟩ => (by have h3 := (row_lt HO_0.out k e).2; rw [h1] at hk; injection hk with hk; omega)))
              have HO_04 := Lib.hid (row_keep HO_0.out hg_ (fun k hk e => HD0_0.out k e hk))
              have HB_04 := Lib.hid (HB_0.out.trans hb)
              clear ho hb hg_ hnew_
              obtain ⟨ad2, he2, x0, x1, x2, x3, x4, x5, x6, x7, x8, x9, x10⟩ := at_S (Kd.C_below HR.out HB_04.out) HGS.out
              injection he2 with he2
              subst he2
              refine hK.out _ _ ⟨x0, x1, x2, x3, x4, x5, x6, x7, x8, x9, x10⟩ (fun hHeld => ?_)
              clear hK K
              refine norm_ (a' := ?_) ?_ ?_
              rotate_left
              · show Act.put _ (some 43) _ = _
                simp only [Act.put, List.setIfInBounds_toArray, List.set_cons_zero, List.set_cons_succ, i64_w, i32_w]
                rfl
              refine one_ (i := 9) (N := some 48) #[true, true, true, true, true, true, true, true, true, true, false, true, true, true, false, false] rfl rfl (by kernel_rfl) (by decide) (fun K hK => ?_)
              refine Kd.R_lit_step kS (w0 := w5_04) w.heap.size 38 ?hg (N := 48) ?hd (xs := [s]) (inner := encS s) (ok := fun _ => True) (okp := fun _ => True) ?hr ?hp (fun _ hk => hk) trivial (Below.refl _ _) HB_04.out.size (by simp) ?_; (case hd => rfl); (case hg => rfl); (case hr => first | (go_simp; done) | (go_simp; rfl)); (case hp => exact reps_S _ _ _ _)
              intro v9_ w5_049 ho hb hg_ hnew_
              have hbl : Below w5_04.heap.size w5_04 w5_049 := Below.grown (Below.refl _ _) hg_ (Nat.le_refl _) (fun _ h => by cases h)
              obtain ⟨A9_049, c9_049, rfl⟩ := Kd.R_slice ho
              rw [show [s].length = 1 from rfl] at ho hnew_ ⊢
              obtain ⟨bn, hbn, hbn2⟩ := hnew_
              have HV9_049 := Lib.hid ho
              have HE9_049 := Lib.hid (show ∀ k, v4_04.ownBlock = some k → (Value.slice A9_049 1 c9_049).ownBlock ≠ some k from fun k hk e => (by have h1 := (row_lt HV4_04.out k hk).2; rw [hbn] at e; injection e with e; omega))
              have HV4_049 := Lib.hid (Kd.R_below HV4_04.out hbl)
              have HE0_049 := HE0_04
              have HB_049 := Lib.hid (below_step HB_04.out hbl)
              have HO_049 := Lib.hid (Kd.R_below HO_04.out hbl)
              clear ho hb hg_ hbl hbn hbn2
              obtain ⟨ad2, he2, x0, x1, x2, x3, x4, x5, x6, x7, x8, x9, x10⟩ := at_S (Kd.C_below HR.out HB_049.out) HGS.out
              injection he2 with he2
              subst he2
              refine hK.out _ _ ⟨x0, x1, x2, x3, x4, x5, x6, x7, x8, x9, x10⟩ (fun hHeld => ?_)
              clear hK K
              refine norm_ (a' := ?_) ?_ ?_
              rotate_left
              · show Act.put _ (some 48) _ = _
                simp only [Act.put, List.setIfInBounds_toArray, List.set_cons_zero, List.set_cons_succ, i64_w, i32_w]
                rfl
              exact norm_ (by simp only [putAll, Act.put, List.setIfInBounds_toArray, List.set_cons_zero, List.set_cons_succ]) (hCont (v0_0, v4_04, (A9_049, c9_049)) _ ⟨HV4_049.out, HV9_049.out, HO_049.out, HB_049.out, HE0_049.out, HE9_049.out⟩)
            · skip
              refine Kd.R_lit_step kS (w0 := w5_0) w.heap.size 38 ?hg (N := 48) ?hd (xs := [s]) (inner := encS s) (ok := fun _ => True) (okp := fun _ => True) ?hr ?hp (fun _ hk => hk) trivial (Below.refl _ _) HB_0.out.size (by simp) ?_; (case hd => rfl); (case hg => rfl); (case hr => first | (go_simp; done) | (go_simp; rfl)); (case hp => exact reps_S _ _ _ _)
              intro v9_ w5_09 ho hb hg_ hnew_
              have hbl : Below w5_0.heap.size w5_0 w5_09 := Below.grown (Below.refl _ _) hg_ (Nat.le_refl _) (fun _ h => by cases h)
              obtain ⟨A9_09, c9_09, rfl⟩ := Kd.R_slice ho
              rw [show [s].length = 1 from rfl] at ho hnew_ ⊢
              obtain ⟨bn, hbn, hbn2⟩ := hnew_
              have HV9_09 := Lib.hid ho
              have HD9_09 := Lib.hid (show ∀ k, v0_0.ownBlock = some k → (Value.slice A9_09 1 c9_09).ownBlock ≠ some k from fun k hk e => (by have h1 := (row_lt HV0_0.out k hk).2; rw [hbn] at e; injection e with e; omega))
              have HV0_09 := Lib.hid (Kd.R_below HV0_0.out hbl)
              have HD0_09 := HD0_0
              have HB_09 := Lib.hid (below_step HB_0.out hbl)
              have HO_09 := Lib.hid (Kd.R_below HO_0.out hbl)
              clear ho hb hg_ hbl hbn hbn2
              obtain ⟨ad2, he2, x0, x1, x2, x3, x4, x5, x6, x7, x8, x9, x10⟩ := at_S (Kd.C_below HR.out HB_09.out) HGS.out
              injection he2 with he2
              subst he2
              refine hK.out _ _ ⟨x0, x1, x2, x3, x4, x5, x6, x7, x8, x9, x10⟩ (fun hHeld => ?_)
              clear hK K
              refine norm_ (a' := ?_) ?_ ?_
              rotate_left
              · show Act.put _ (some 48) _ = _
                simp only [Act.put, List.setIfInBounds_toArray, List.set_cons_zero, List.set_cons_succ, i64_w, i32_w]
                rfl
              refine one_ (i := 4) (N := some 43) #[true, true, true, true, true, true, true, true, true, true, false, true, true, true, false, false] rfl rfl (by kernel_rfl) (by decide) (fun K hK => ?_)
              refine Kd.R_append_rows_step kS (w0 := w5_09) w.heap.size (by rfl) (.tmp 39) (.tmp 42) 22 38 (.agg #[(.int .u64 0), (.int .u64 0), (.int .u64 0), (.string ⟨#[]⟩), (.string ⟨#[]⟩), (.int .i64 0), (.int .i64 0), (.int .i64 0), (.slice none 0 0), (.slice none 0 0), (.slice none 0 0)]) 152 (by rfl) Try.underlying22 infoS rfl (by decide) (by omega) v0_0 [] (o.take j) Ao j co (fun _ => True) (fun _ => False) (by rfl) (by rfl) HV0_09.out (by have h := Kd.C_take (Kd.R_reads' HO_09.out).2.2 HJL.out; rw [HTJ.out] at h; exact h) (fun x_ cs_ h_ => h_) (fun _ h => h.elim) (fun _ _ => trivial) (Below.refl _ _) HB_09.out.size (by have h1 := HJL.out; have h2 := HOL.out; have h3 := HK.out; have h4 := HN.out; simp; omega) ?_
              intro v4_094 w5_094 ho hb hg_ hnew_
              rw [List.nil_append] at ho
              have HV4_094 := Lib.hid ho
              have HE0_094 := Lib.hid (show ∀ k, v4_094.ownBlock = some k → (Value.slice Ao o.length co).ownBlock ≠ some k from fun k hk e => hnew_.elim (fun h => HD0_09.out k (h.symm.trans hk) e) (fun ⟨b_, h1, h2⟩ => (by have h3 := (row_lt HO_09.out k e).2; rw [h1] at hk; injection hk with hk; omega)))
              have HE9_094 := Lib.hid (show ∀ k, v4_094.ownBlock = some k → (Value.slice A9_09 1 c9_09).ownBlock ≠ some k from fun k hk e => hnew_.elim (fun h => HD9_09.out k (h.symm.trans hk) e) (fun ⟨b_, h1, h2⟩ => (by have h3 := (row_lt HV9_09.out k e).2; rw [h1] at hk; injection hk with hk; omega)))
              have HV9_094 := Lib.hid (row_keep HV9_09.out hg_ (fun k hk e => HD9_09.out k e hk))
              have HO_094 := Lib.hid (row_keep HO_09.out hg_ (fun k hk e => HD0_09.out k e hk))
              have HB_094 := Lib.hid (HB_09.out.trans hb)
              clear ho hb hg_ hnew_
              obtain ⟨ad2, he2, x0, x1, x2, x3, x4, x5, x6, x7, x8, x9, x10⟩ := at_S (Kd.C_below HR.out HB_094.out) HGS.out
              injection he2 with he2
              subst he2
              refine hK.out _ _ ⟨x0, x1, x2, x3, x4, x5, x6, x7, x8, x9, x10⟩ (fun hHeld => ?_)
              clear hK K
              refine norm_ (a' := ?_) ?_ ?_
              rotate_left
              · show Act.put _ (some 43) _ = _
                simp only [Act.put, List.setIfInBounds_toArray, List.set_cons_zero, List.set_cons_succ, i64_w, i32_w]
                rfl
              exact norm_ (by simp only [putAll, Act.put, List.setIfInBounds_toArray, List.set_cons_zero, List.set_cons_succ]) (hCont (v0_0, v4_094, (A9_09, c9_09)) _ ⟨HV4_094.out, HV9_094.out, HO_094.out, HB_094.out, HE0_094.out, HE9_094.out⟩)
          · skip
            refine Kd.R_lit_step kS (w0 := w5) w.heap.size 38 ?hg (N := 48) ?hd (xs := [s]) (inner := encS s) (ok := fun _ => True) (okp := fun _ => True) ?hr ?hp (fun _ hk => hk) trivial (Below.refl _ _) HB.out.size (by simp) ?_; (case hd => rfl); (case hg => rfl); (case hr => first | (go_simp; done) | (go_simp; rfl)); (case hp => exact reps_S _ _ _ _)
            intro v9_ w5_9 ho hb hg_ hnew_
            have hbl : Below w5.heap.size w5 w5_9 := Below.grown (Below.refl _ _) hg_ (Nat.le_refl _) (fun _ h => by cases h)
            obtain ⟨A9_9, c9_9, rfl⟩ := Kd.R_slice ho
            rw [show [s].length = 1 from rfl] at ho hnew_ ⊢
            obtain ⟨bn, hbn, hbn2⟩ := hnew_
            have HV9_9 := Lib.hid ho
            have HB_9 := Lib.hid (below_step HB.out hbl)
            have HO_9 := Lib.hid (Kd.R_below HO.out hbl)
            clear ho hb hg_ hbl hbn hbn2
            obtain ⟨ad2, he2, x0, x1, x2, x3, x4, x5, x6, x7, x8, x9, x10⟩ := at_S (Kd.C_below HR.out HB_9.out) HGS.out
            injection he2 with he2
            subst he2
            refine hK.out _ _ ⟨x0, x1, x2, x3, x4, x5, x6, x7, x8, x9, x10⟩ (fun hHeld => ?_)
            clear hK K
            refine norm_ (a' := ?_) ?_ ?_
            rotate_left
            · show Act.put _ (some 48) _ = _
              simp only [Act.put, List.setIfInBounds_toArray, List.set_cons_zero, List.set_cons_succ, i64_w, i32_w]
              rfl
            refine one_ (i := 0) (N := some 39) #[true, true, true, true, false, true, true, true, true, true, false, true, true, true, false, false] rfl rfl (by kernel_rfl) (by decide) (fun K hK => ?_)
            refine Kd.R_lit_step kS (w0 := w5_9) w.heap.size 38 ?hg (N := 39) ?hd (xs := ([] : List Sp)) (inner := []) (ok := fun _ => True) (okp := fun _ => True) ?hr ?hp (fun _ hk => hk) trivial (Below.refl _ _) HB_9.out.size (by simp) ?_; (case hd => rfl); (case hg => rfl); (case hr => first | (go_simp; done) | (go_simp; rfl)); (case hp => exact (Reps.none _ _))
            intro v0_90 w5_90 ho hb hg_ hnew_
            have hbl : Below w5_9.heap.size w5_9 w5_90 := Below.grown (Below.refl _ _) hg_ (Nat.le_refl _) (fun _ h => by cases h)
            obtain ⟨bn, hbn, hbn2⟩ := hnew_
            have HV0_90 := Lib.hid ho
            have HD0_90 := Lib.hid (show ∀ k, v0_90.ownBlock = some k → (Value.slice Ao o.length co).ownBlock ≠ some k from fun k hk e => (by have h1 := (row_lt HO_9.out k e).2; rw [hbn] at hk; injection hk with hk; omega))
            have HD9_90 := Lib.hid (show ∀ k, v0_90.ownBlock = some k → (Value.slice A9_9 1 c9_9).ownBlock ≠ some k from fun k hk e => (by have h1 := (row_lt HV9_9.out k e).2; rw [hbn] at hk; injection hk with hk; omega))
            have HV9_90 := Lib.hid (Kd.R_below HV9_9.out hbl)
            have HB_90 := Lib.hid (below_step HB_9.out hbl)
            have HO_90 := Lib.hid (Kd.R_below HO_9.out hbl)
            clear ho hb hg_ hbl hbn hbn2
            obtain ⟨ad2, he2, x0, x1, x2, x3, x4, x5, x6, x7, x8, x9, x10⟩ := at_S (Kd.C_below HR.out HB_90.out) HGS.out
            injection he2 with he2
            subst he2
            refine hK.out _ _ ⟨x0, x1, x2, x3, x4, x5, x6, x7, x8, x9, x10⟩ (fun hHeld => ?_)
            clear hK K
            refine norm_ (a' := ?_) ?_ ?_
            rotate_left
            · show Act.put _ (some 39) _ = _
              simp only [Act.put, List.setIfInBounds_toArray, List.set_cons_zero, List.set_cons_succ, i64_w, i32_w]
              rfl
            refine one_ (i := 4) (N := some 43) #[true, true, true, true, true, true, true, true, true, true, false, true, true, true, false, false] rfl rfl (by kernel_rfl) (by decide) (fun K hK => ?_)
            refine Kd.R_append_rows_step kS (w0 := w5_90) w.heap.size (by rfl) (.tmp 39) (.tmp 42) 22 38 (.agg #[(.int .u64 0), (.int .u64 0), (.int .u64 0), (.string ⟨#[]⟩), (.string ⟨#[]⟩), (.int .i64 0), (.int .i64 0), (.int .i64 0), (.slice none 0 0), (.slice none 0 0), (.slice none 0 0)]) 152 (by rfl) Try.underlying22 infoS rfl (by decide) (by omega) v0_90 [] (o.take j) Ao j co (fun _ => True) (fun _ => False) (by rfl) (by rfl) HV0_90.out (by have h := Kd.C_take (Kd.R_reads' HO_90.out).2.2 HJL.out; rw [HTJ.out] at h; exact h) (fun x_ cs_ h_ => h_) (fun _ h => h.elim) (fun _ _ => trivial) (Below.refl _ _) HB_90.out.size (by have h1 := HJL.out; have h2 := HOL.out; have h3 := HK.out; have h4 := HN.out; simp; omega) ?_
            intro v4_904 w5_904 ho hb hg_ hnew_
            rw [List.nil_append] at ho
            have HV4_904 := Lib.hid ho
            have HE0_904 := Lib.hid (show ∀ k, v4_904.ownBlock = some k → (Value.slice Ao o.length co).ownBlock ≠ some k from fun k hk e => hnew_.elim (fun h => HD0_90.out k (h.symm.trans hk) e) (fun ⟨b_, h1, h2⟩ => (by have h3 := (row_lt HO_90.out k e).2; rw [h1] at hk; injection hk with hk; omega)))
            have HE9_904 := Lib.hid (show ∀ k, v4_904.ownBlock = some k → (Value.slice A9_9 1 c9_9).ownBlock ≠ some k from fun k hk e => hnew_.elim (fun h => HD9_90.out k (h.symm.trans hk) e) (fun ⟨b_, h1, h2⟩ => (by have h3 := (row_lt HV9_90.out k e).2; rw [h1] at hk; injection hk with hk; omega)))
            have HV9_904 := Lib.hid (row_keep HV9_90.out hg_ (fun k hk e => HD9_90.out k e hk))
            have HO_904 := Lib.hid (row_keep HO_90.out hg_ (fun k hk e => HD0_90.out k e hk))
            have HB_904 := Lib.hid (HB_90.out.trans hb)
            clear ho hb hg_ hnew_
            obtain ⟨ad2, he2, x0, x1, x2, x3, x4, x5, x6, x7, x8, x9, x10⟩ := at_S (Kd.C_below HR.out HB_904.out) HGS.out
            injection he2 with he2
            subst he2
            refine hK.out _ _ ⟨x0, x1, x2, x3, x4, x5, x6, x7, x8, x9, x10⟩ (fun hHeld => ?_)
            clear hK K
            refine norm_ (a' := ?_) ?_ ?_
            rotate_left
            · show Act.put _ (some 43) _ = _
              simp only [Act.put, List.setIfInBounds_toArray, List.set_cons_zero, List.set_cons_succ, i64_w, i32_w]
              rfl
            exact norm_ (by simp only [putAll, Act.put, List.setIfInBounds_toArray, List.set_cons_zero, List.set_cons_succ]) (hCont (v0_90, v4_904, (A9_9, c9_9)) _ ⟨HV4_904.out, HV9_904.out, HO_904.out, HB_904.out, HE0_904.out, HE9_904.out⟩)
        rintro ⟨v0, v4, A9, c9⟩ w9 ⟨hv4, hv9, ho9, hb9, hd0, hd9⟩
        have HV4 := Lib.hid hv4
        have HV9 := Lib.hid hv9
        have HO9 := Lib.hid ho9
        have HB9 := Lib.hid hb9
        have HD0 := Lib.hid hd0
        have HD9 := Lib.hid hd9
        clear hv4 hv9 ho9 hb9 hd0 hd9
        obtain ⟨ad2, he2, x0, x1, x2, x3, x4, x5, x6, x7, x8, x9, x10⟩ := at_S (Kd.C_below HR.out HB9.out) HGS.out
        injection he2 with he2
        subst he2
        have hHeld : w9.cell? (ad.add (k * 11)) = some (.int .u64 s.tr) ∧ w9.cell? ⟨(ad.add (k * 11)).block, (ad.add (k * 11)).off + 1, none⟩ = some (.int .u64 s.id) ∧ w9.cell? ⟨(ad.add (k * 11)).block, (ad.add (k * 11)).off + 2, none⟩ = some (.int .u64 s.par) ∧ w9.cell? ⟨(ad.add (k * 11)).block, (ad.add (k * 11)).off + 3, none⟩ = some (.string s.svc) ∧ w9.cell? ⟨(ad.add (k * 11)).block, (ad.add (k * 11)).off + 4, none⟩ = some (.string s.op) ∧ w9.cell? ⟨(ad.add (k * 11)).block, (ad.add (k * 11)).off + 5, none⟩ = some (.int .i64 s.st) ∧ w9.cell? ⟨(ad.add (k * 11)).block, (ad.add (k * 11)).off + 6, none⟩ = some (.int .i64 s.du) ∧ w9.cell? ⟨(ad.add (k * 11)).block, (ad.add (k * 11)).off + 7, none⟩ = some (.int .i64 s.stt) ∧ w9.cell? ⟨(ad.add (k * 11)).block, (ad.add (k * 11)).off + 8, none⟩ = some (.slice s.a.1 s.a.2.1 s.a.2.2) ∧ w9.cell? ⟨(ad.add (k * 11)).block, (ad.add (k * 11)).off + 9, none⟩ = some (.slice s.e.1 s.e.2.1 s.e.2.2) ∧ w9.cell? ⟨(ad.add (k * 11)).block, (ad.add (k * 11)).off + 10, none⟩ = some (.slice s.l.1 s.l.2.1 s.l.2.2) := ⟨x0, x1, x2, x3, x4, x5, x6, x7, x8, x9, x10⟩
        refine norm_ (a' := ?_) ?_ ?_
        rotate_left
        · simp only [putAll, Act.put, List.setIfInBounds_toArray, List.set_cons_zero, List.set_cons_succ]
          rfl
        refine one_ (i := 10) (N := some 49) #[true, true, true, true, true, true, true, true, true, true, true, true, true, true, false, false] rfl rfl (by kernel_rfl) (by decide) (fun K hK => ?_)
        refine Kd.R_append_rows_step kS (w0 := w9) w.heap.size (by rfl) (.tmp 43) (.tmp 48) 22 38 (.agg #[(.int .u64 0), (.int .u64 0), (.int .u64 0), (.string ⟨#[]⟩), (.string ⟨#[]⟩), (.int .i64 0), (.int .i64 0), (.int .i64 0), (.slice none 0 0), (.slice none 0 0), (.slice none 0 0)]) 152 (by rfl) Try.underlying22 infoS rfl (by decide) (by omega) v4 (o.take j) [s] A9 1 c9 (fun _ => True) (fun _ => False) (by rfl) (by rfl) HV4.out (Kd.R_reads' HV9.out).2.2 (fun x_ cs_ h_ => h_) (fun _ h => h.elim) (fun _ _ => trivial) (Below.refl _ _) HB9.out.size (by have h0 := HTJ.out; have h1 := HJL.out; have h2 := HOL.out; have h3 := HK.out; have h4 := HN.out; omega) ?_
        intro v10 w10 ho hb hg_ hnew_
        have HV10 := Lib.hid ho
        have HB10 := Lib.hid (HB9.out.trans hb)
        have HO10 := Lib.hid (row_keep HO9.out hg_ (fun k hk e => HD0.out k e hk))
        clear ho hb hg_ hnew_
        obtain ⟨ad2, he2, x0, x1, x2, x3, x4, x5, x6, x7, x8, x9, x10⟩ := at_S (Kd.C_below HR.out HB10.out) HGS.out
        injection he2 with he2
        subst he2
        refine hK.out _ _ ⟨x0, x1, x2, x3, x4, x5, x6, x7, x8, x9, x10⟩ (fun hHeld => ?_)
        clear hK K
        refine norm_ (a' := ?_) ?_ ?_
        rotate_left
        · show Act.put _ (some 49) _ = _
          simp only [Act.put, List.setIfInBounds_toArray, List.set_cons_zero, List.set_cons_succ, i64_w, i32_w]
          rfl
        refine one_ (i := 14) (N := some 53) #[true, true, true, true, true, true, true, true, true, true, true, true, true, true, true, false] rfl rfl (by kernel_rfl) (by decide) (fun K hK => ?_)
        have hc2 := Kd.C_drop (Kd.R_reads' HO10.out).2.2 HJL.out (Kd.R_reads' HO10.out).2.1
        change Kd.C kS w10 (if co = j then Ao else Ao.map (·.add (j * 11))) (o.drop j).length (o.drop j) at hc2
        rw [HA2.out, List.length_drop] at hc2
        refine Kd.R_append_rows_step kS (w0 := w10) w.heap.size (by rfl) (.tmp 49) (.tmp 52) 22 38 (.agg #[(.int .u64 0), (.int .u64 0), (.int .u64 0), (.string ⟨#[]⟩), (.string ⟨#[]⟩), (.int .i64 0), (.int .i64 0), (.int .i64 0), (.slice none 0 0), (.slice none 0 0), (.slice none 0 0)]) 152 (by rfl) Try.underlying22 infoS rfl (by decide) (by omega) v10 (o.take j ++ [s]) (o.drop j) A2 (o.length - j) (co - j) (fun _ => True) (fun _ => False) (by rfl) (by rfl) HV10.out hc2 (fun x_ cs_ h_ => h_) (fun _ h => h.elim) (fun _ _ => trivial) (Below.refl _ _) HB10.out.size (by have h0 := HTJ.out; have h1 := HJL.out; have h2 := HOL.out; have h3 := HK.out; have h4 := HN.out; simp only [List.length_append, List.length_singleton]; omega) ?_
        intro v14 w14 ho hb hg_ hnew_
        obtain ⟨A14, c14, rfl⟩ := Kd.R_slice ho
        have HV14 := Lib.hid ho
        have HB14 := Lib.hid (HB10.out.trans hb)
        clear ho hb hg_ hnew_ hc2
        obtain ⟨ad2, he2, x0, x1, x2, x3, x4, x5, x6, x7, x8, x9, x10⟩ := at_S (Kd.C_below HR.out HB14.out) HGS.out
        injection he2 with he2
        subst he2
        refine hK.out _ _ ⟨x0, x1, x2, x3, x4, x5, x6, x7, x8, x9, x10⟩ (fun hHeld => ?_)
        clear hK K
        refine norm_ (a' := ?_) ?_ ?_
        rotate_left
        · show Act.put _ (some 53) _ = _
          simp only [Act.put, List.setIfInBounds_toArray, List.set_cons_zero, List.set_cons_succ, i64_w, i32_w]
          rfl
        refine pure_ (i := 15) (N := some 3) (v := ?_) (a' := ?_) #[true, true, true, true, true, true, true, true, true, true, true, true, true, true, true, true] rfl rfl (by kernel_rfl) (fun _ _ _ h => h) (Or.inl ⟨by rfl, ?_⟩) ?_ ?_
        rotate_left
        · intro w'
          go_simp
          with_reducible rfl
        rotate_left
        · simp only [Act.put, List.setIfInBounds_toArray, List.set_cons_zero, List.set_cons_succ, i64_w, i32_w]
          rfl
        refine done_ (by kernel_rfl) ?_
        have HE2 := Lib.hid (show cnt (l.take (k + 1)) = o.take j ++ [s] ++ o.drop j by rw [HE.out, HIN.out]; simp)
        go_wp2
        go_roundw
        case rel => exact ⟨k + 1, A14, c14, HK.out, by rw [HE2.out]; simp [Nat.add_comm, Nat.add_left_comm, Nat.add_assoc], by rw [HW.out], Lib.hid (by rw [HE2.out]; exact HV14.out), HB14⟩
        case measure => exact meas_up HN.out HK.out
    · have hkl : k = l.length := by omega
      subst hkl
      have q : decide ((l.length : Int) < (l.length : Int)) = false := decide_eq_false (by omega)
      rw [List.take_length] at HO ⊢
      clear hlt hk
      go_wp2
      go_ret
      exact ⟨_, rfl, HO.out, HB.out⟩

end Go.Proofs.Ytoigebnhnkdbbaa.Tr
