/- slices.SortFunc of spans by time (chapter 26): the kit's contract, in the session's words. -/
import Derived.Test.YtoigebnhnkdbbaaTrTime
import Derived.Test.YtoigebnhnkdbbaaLaySort
import Derived.Shelf.SlSortCmp.NoneTotal
namespace Go.Proofs.Ytoigebnhnkdbbaa.Tr
open Go.RowKit Go.Proofs.YtoigebnhnkdbbaaW.PrintWords Go.Proofs.YtoigebnhnkdbbaaW.PrintLast Go.Proofs.YtoigebnhnkdbbaaW.PrintMore Go.Proofs.Ytoigebnhnkdbbaa.Math Go.Proofs.Ytoigebnhnkdbbaa.PAll
open Go.Proofs (sortWorldK CmpLays ltOf)
open Go.Sort (HoldsK flatK putRowK get_flatK size_flatK)
set_option linter.unusedVariables false
set_option linter.unusedSimpArgs false

theorem ltOf_byT (x y : Sp) : ltOf byT x y = ltS x y := by
  unfold ltOf
  rw [Bool.eq_iff_iff, decide_eq_true_iff, ltS_iff]
  unfold byT cmpI
  split <;> (repeat' split) <;> omega
theorem swo_byT : Sort.SWO (ltOf byT) where
  irrefl x := by rw [ltOf_byT]; exact ltS_irrefl x
  trans x y z h1 h2 := by rw [ltOf_byT] at *; exact ltS_trans h1 h2
  ntrans x y z h1 h2 := by
    rw [ltOf_byT] at *
    rw [Bool.eq_false_iff] at *
    intro h
    rw [ne_eq, ltS_iff] at h1 h2
    rw [ltS_iff] at h
    omega
theorem lays_byT (blk off size : Nat) (w : World) : CmpLays Try.prog 34 #[] encS 11 byT blk off size w :=
  fun m os dk _ x y => (byTime_calls x y _).mono fun e w' ⟨he, q, os', hw⟩ => ⟨he, q, os', hw⟩

/-- A row of one's own, as the sort wants it. -/
theorem holds_of {w : World} {g cap : Nat} {cur : Array Value} {xs : List Sp} (hh : w.heap[g]? = some (.cells cur 38 (0, 0))) (hnc : xs.length ≤ cap) (hcs : cur.size = cap * 11)
    (hr : ∀ (j : Nat) (p : Sp), xs[j]? = some p → ((cur.toList.take (xs.length * 11)).drop (j * 11)).take 11 = encS p) : HoldsK encS 11 w g 0 xs.toArray := by
  intro t ht
  rw [size_flatK] at ht
  have ht : t < xs.length * 11 := by simpa using ht
  have hq : t / 11 < xs.length := by omega
  have hp := hr (t / 11) _ (List.getElem?_eq_getElem hq)
  have hcell : w.cell? ⟨g, 0 + t, none⟩ = cur[t]? := by rw [Nat.zero_add]; exact cell_of_row w g t _ _ _ hh
  refine ⟨?_, by rw [Nat.zero_add]; exact blk_frozen hh t⟩
  rw [hcell]
  have hlt : t < cur.size := by rw [hcs]; have := Nat.mul_le_mul_right 11 hnc; omega
  have h1 := congrArg (fun l : List Value => l[t % 11]?) hp
  rw [List.getElem?_take, if_pos (Nat.mod_lt _ (by omega)), List.getElem?_drop, List.getElem?_take, if_pos (by omega), show t / 11 * 11 + t % 11 = t by omega, Array.getElem?_toList] at h1
  rw [h1]
  show (encS xs[t / 11])[t % 11]? = some (flatK encS 11 xs.toArray)[t]!
  rw [get_flatK _ _ _ _ (by simpa using ht)]
  have e : xs.toArray[t / 11]! = xs[t / 11] := by simp [hq]
  rw [e]
  have hm : t % 11 < (encS xs[t / 11]).length := Nat.mod_lt _ (by decide)
  rw [List.getElem?_eq_getElem hm, getElem!_pos (encS xs[t / 11]) (t % 11) hm]

theorem sort_R {base : Nat} {ok : Nat → Prop} {v : Value} {xs : List Sp} {w : World} (h : Kd.R kS 38 w base ok v xs) (hn : xs.length ≤ 1000000) :
    Calls Try.prog 33 #[v, .func (.func 34) #[] #[]] w fun e w' => e = .returned (.tuple #[]) ∧ ∃ ys : List Sp, ys.Perm xs ∧ (∀ i j, i < j → (hj : j < ys.length) → (hi : i < ys.length) → ltS ys[j] ys[i] = false) ∧ Kd.R kS 38 w' base ok v ys ∧ w.grownBy w' v.ownBlock := by
  rcases Nat.eq_zero_or_pos xs.length with hz0 | h0
  · obtain ⟨p, c, rfl⟩ := Kd.R_slice h
    have hnil : xs = [] := List.length_eq_zero_iff.1 hz0
    subst hnil
    have hcon := AnyF.slices_SortFunc_none Try.sortSpan p c (.func (.func 34) #[] #[]) w
    change Calls Try.prog 33 _ _ _ at hcon
    refine hcon.mono ?_
    rintro e w' ⟨rfl, rfl⟩
    exact ⟨rfl, [], List.Perm.refl _, fun i j hij hj hi => absurd hj (by simp), h, rfl, rfl, rfl, Nat.le_refl _, fun _ _ _ => rfl⟩
  obtain ⟨hok, inner, ⟨hl, ho⟩, hr⟩ := h
  rcases ho with ⟨_, hz⟩ | ⟨g, cap, cur, rfl, hg, hh, hnc, hcm, hcs, ht⟩
  · omega
  have hcs : cur.size = cap * 11 := hcs
  have ht : cur.toList.take (xs.length * 11) = inner := ht
  have hH := holds_of hh hnc hcs (fun j p hj => by rw [ht]; exact hr.2 j p hj)
  have eg : ∀ args w, (callFunc 34 args).run Try.prog w = .ok (.enter 34 args) w := enters_of Try.func34 (by kernel_rfl) rfl
  have hcon := AnyQ.slices_SortFunc Try.sortSpan 11 Try.isAgg38 Try.sizeOf38 encS encS_len encS_one byT swo_byT 34 #[] g 0 cap xs.toArray w eg (lays_byT g 0 _ w) hH (blk_lt hh) (by simp; omega)
  change Calls Try.prog 33 _ _ _ at hcon
  rw [show xs.toArray.size = xs.length by simp] at hcon
  refine hcon.mono ?_
  rintro e w' ⟨rfl, d', n, os, ⟨hsz, _, hperm⟩, hsort, rfl⟩
  have hsz : d'.size = xs.length := by simpa using hsz
  refine ⟨rfl, d'.toList, ?_, ?_, ?_, ?_⟩
  · have e1 : (d'.extract 0 xs.length).toList = d'.toList := by rw [← hsz]; simp
    have e2 : (xs.toArray.extract 0 xs.length).toList = xs := by simp
    rw [e1, e2] at hperm
    exact hperm
  · intro i j hij hj hi
    have hj' : j < d'.size := by simpa using hj
    have hi' : i < d'.size := by simpa using hi
    have := hsort i j (Nat.zero_le _) hij (by omega)
    rw [ltOf_byT, getElem!_pos d' j hj', getElem!_pos d' i hi'] at this
    simpa using this
  · have hput : ∀ t, t < xs.length * 11 → (Go.Sort.putCells id 0 (flatK encS 11 d') cur)[t]? = some (flatK encS 11 d')[t]! := by
      intro t htl
      have hc : t < cur.size := by rw [hcs]; have := Nat.mul_le_mul_right 11 hnc; omega
      simp only [Go.Sort.putCells, Array.getElem?_mapIdx, Array.getElem?_eq_getElem hc, Option.map_some, size_flatK, Nat.zero_le, true_and, Nat.zero_add, Nat.sub_zero, id]
      rw [if_pos (by rw [hsz]; exact htl)]
    have hps : (Go.Sort.putCells id 0 (flatK encS 11 d') cur).size = cur.size := by simp [Go.Sort.putCells]
    have hyl : d'.toList.length = xs.length := by simpa using hsz
    have hhg : (sortWorldK encS 11 w g 0 n d' os).heap[g]? = some (.cells (Go.Sort.putCells id 0 (flatK encS 11 d') cur) 38 (0, 0)) := by
      unfold sortWorldK
      rw [Go.Sort.heap_grow_old _ _ (by simp [putRowK, Go.Sort.putRow, Go.Sort.mapBlock, Go.Sort.ahead]; exact blk_lt hh)]
      simp only [putRowK, Go.Sort.putRow, Go.Sort.mapBlock, Go.Sort.ahead, Array.getElem?_modify, if_true, hh, Option.map_some, Go.Sort.onCells]
    refine ⟨hok, (Go.Sort.putCells id 0 (flatK encS 11 d') cur).toList.take (xs.length * 11), ⟨?_, .inr ⟨g, cap, Go.Sort.putCells id 0 (flatK encS 11 d') cur, by rw [hyl], hg, hhg, by rw [hyl]; exact hnc, hcm, ?_, by rw [hyl]; rfl⟩⟩, ?_, ?_⟩
    · rw [hyl, List.length_take]
      show min (xs.length * 11) (Go.Sort.putCells id 0 (flatK encS 11 d') cur).size = xs.length * 11
      rw [hps, hcs]
      exact Nat.min_eq_left (Nat.mul_le_mul_right 11 hnc)
    · rw [hps]; exact hcs
    · rw [hyl, List.length_take]
      show min (xs.length * 11) (Go.Sort.putCells id 0 (flatK encS 11 d') cur).size = xs.length * 11
      rw [hps, hcs]
      exact Nat.min_eq_left (Nat.mul_le_mul_right 11 hnc)
    · intro j p hj
      obtain ⟨hjl, e⟩ := List.getElem?_eq_some_iff.1 hj
      rw [hyl] at hjl
      show (((Go.Sort.putCells id 0 (flatK encS 11 d') cur).toList.take (xs.length * 11)).drop (j * 11)).take 11 = encS p
      refine List.ext_getElem? fun i => ?_
      rw [List.getElem?_take]
      by_cases hi : i < 11
      · rw [if_pos hi, List.getElem?_drop, List.getElem?_take, if_pos (by omega), Array.getElem?_toList, hput _ (by omega), get_flatK _ _ _ _ (by rw [hsz]; omega), show (j * 11 + i) / 11 = j by omega, show (j * 11 + i) % 11 = i by omega]
        have e2 : d'[j]! = p := by
          rw [getElem!_pos d' j (by rw [hsz]; exact hjl)]
          simpa using e
        rw [e2]
        have hm : i < (encS p).length := hi
        rw [List.getElem?_eq_getElem hm, getElem!_pos (encS p) i hm]
      · rw [if_neg hi]
        exact (List.getElem?_eq_none (by rw [encS_len]; omega)).symm
  · refine ⟨rfl, rfl, rfl, by simp [sortWorldK, putRowK, Go.Sort.putRow, Go.Sort.mapBlock, Go.Sort.ahead], fun k hk hne => ?_⟩
    unfold sortWorldK
    rw [Go.Sort.heap_grow_old _ _ (by simp [putRowK, Go.Sort.putRow, Go.Sort.mapBlock, Go.Sort.ahead]; exact hk)]
    simp only [putRowK, Go.Sort.putRow, Go.Sort.mapBlock, Go.Sort.ahead, Array.getElem?_modify]
    have hgk : ¬ g = k := fun e => hne (by rw [← e]; rfl)
    rw [if_neg hgk]

end Go.Proofs.Ytoigebnhnkdbbaa.Tr
