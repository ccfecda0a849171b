/- Sums (chapter 26), plainly: what a sum of two lists is. No program in sight. -/
import Derived.Test.YtoigebnhnkdbbaaTrWay
namespace Go.Proofs.Ytoigebnhnkdbbaa.Tr
open Go
set_option linter.unusedVariables false
open Classical in
/-- Is it among them? -/
noncomputable def memB (x : ByteArray) (l : List ByteArray) : Bool := decide (x ∈ l)
theorem memB_iff {x : ByteArray} {l : List ByteArray} : memB x l = true ↔ x ∈ l := by simp [memB]

theorem len_subB {β : Type} [DecidableEq β] : ∀ {l m : List β}, l.Pairwise (· ≠ ·) → (∀ x ∈ l, x ∈ m) → l.length ≤ m.length
  | [], _, _, _ => Nat.zero_le _
  | a :: l, m, hp, h => by
    obtain ⟨h1, h2⟩ := List.pairwise_cons.1 hp
    have ha := h a List.mem_cons_self
    have hlen : (m.erase a).length + 1 = m.length := by
      rw [List.length_erase_of_mem ha]
      have := List.length_pos_of_mem ha
      omega
    have ih := len_subB (l := l) (m := m.erase a) h2 (fun x hx => by
      rw [List.mem_erase_of_ne (fun e => h1 x hx e.symm)]
      exact h x (List.mem_cons_of_mem _ hx))
    simp only [List.length_cons]
    omega
/-- The services, each once. -/
noncomputable def svsL (l : List Sp) : List ByteArray := l.foldl (fun acc s => if memB s.svc acc = true then acc else acc ++ [s.svc]) []
theorem svsL_snoc (l : List Sp) (s : Sp) : svsL (l ++ [s]) = if memB s.svc (svsL l) = true then svsL l else svsL l ++ [s.svc] := by
  unfold svsL
  rw [List.foldl_append]
  rfl
theorem svsL_mem (l : List Sp) (x : ByteArray) : x ∈ svsL l ↔ ∃ s ∈ l, s.svc = x := by
  induction l using snoc_rec with
  | h0 => simp [svsL]
  | h1 l s ih =>
    rw [svsL_snoc]
    by_cases hm : s.svc ∈ svsL l
    · rw [if_pos (memB_iff.2 hm), ih]
      constructor
      · rintro ⟨y, hy, e⟩; exact ⟨y, List.mem_append_left _ hy, e⟩
      · rintro ⟨y, hy, e⟩
        rcases List.mem_append.1 hy with hy | hy
        · exact ⟨y, hy, e⟩
        · rw [List.mem_singleton.1 hy] at e
          rw [← ih, ← e]
          exact hm
    · rw [if_neg (fun e => hm (memB_iff.1 e)), List.mem_append, ih, List.mem_singleton]
      constructor
      · rintro (⟨y, hy, e⟩ | e)
        · exact ⟨y, List.mem_append_left _ hy, e⟩
        · exact ⟨s, by simp, e.symm⟩
      · rintro ⟨y, hy, e⟩
        rcases List.mem_append.1 hy with hy | hy
        · exact .inl ⟨y, hy, e⟩
        · rw [List.mem_singleton.1 hy] at e
          exact .inr e.symm
theorem svsL_apart (l : List Sp) : (svsL l).Pairwise (· ≠ ·) := by
  induction l using snoc_rec with
  | h0 => exact List.Pairwise.nil
  | h1 l s ih =>
    rw [svsL_snoc]
    split
    · exact ih
    · rename_i hm
      rw [List.pairwise_append]
      refine ⟨ih, List.pairwise_singleton _ _, fun x hx y hy => ?_⟩
      rw [List.mem_singleton.1 hy]
      intro e
      exact hm (memB_iff.2 (e ▸ hx))
theorem hasSvc_iff {l : List Sp} {x : ByteArray} : hasSvc l x = true ↔ x ∈ svsL l := by
  rw [svsL_mem]
  simp [hasSvc]
theorem sv_len (l : List Sp) : (sumS l).sv = (svsL l).length := by
  induction l using snoc_rec with
  | h0 => rfl
  | h1 l s ih =>
    rw [sumS_snoc, svsL_snoc]
    show (if hasSvc l s.svc = true then (sumS l).sv else (sumS l).sv + 1) = _
    by_cases h : s.svc ∈ svsL l
    · rw [if_pos (memB_iff.2 h), if_pos (hasSvc_iff.2 h), ih]
    · rw [if_neg (fun e => h (memB_iff.1 e)), if_neg (fun e => h (hasSvc_iff.1 e)), ih, List.length_append, List.length_singleton]
      rfl
theorem sv_app (a b : List Sp) : (sumS (a ++ b)).sv ≤ (sumS a).sv + (sumS b).sv ∧ (sumS a).sv ≤ (sumS (a ++ b)).sv ∧ (sumS b).sv ≤ (sumS (a ++ b)).sv ∧ (sumS (a ++ b)).sv ≤ (sumS (b ++ a)).sv := by
  simp only [sv_len]
  have h1 := len_subB (l := svsL (a ++ b)) (m := svsL a ++ svsL b) (svsL_apart _) (fun x hx => by
    obtain ⟨s, hs, e⟩ := (svsL_mem _ _).1 hx
    rw [List.mem_append, svsL_mem, svsL_mem]
    rcases List.mem_append.1 hs with hs | hs
    · exact .inl ⟨s, hs, e⟩
    · exact .inr ⟨s, hs, e⟩)
  have h2 := len_subB (l := svsL a) (m := svsL (a ++ b)) (svsL_apart _) (fun x hx => by
    obtain ⟨s, hs, e⟩ := (svsL_mem _ _).1 hx
    exact (svsL_mem _ _).2 ⟨s, List.mem_append_left _ hs, e⟩)
  have h3 := len_subB (l := svsL b) (m := svsL (a ++ b)) (svsL_apart _) (fun x hx => by
    obtain ⟨s, hs, e⟩ := (svsL_mem _ _).1 hx
    exact (svsL_mem _ _).2 ⟨s, List.mem_append_right _ hs, e⟩)
  have h4 := len_subB (l := svsL (a ++ b)) (m := svsL (b ++ a)) (svsL_apart _) (fun x hx => by
    obtain ⟨s, hs, e⟩ := (svsL_mem _ _).1 hx
    refine (svsL_mem _ _).2 ⟨s, ?_, e⟩
    rcases List.mem_append.1 hs with hs | hs
    · exact List.mem_append_right _ hs
    · exact List.mem_append_left _ hs)
  rw [List.length_append] at h1
  omega
theorem n_len (l : List Sp) : (sumS l).n = l.length := by
  induction l using snoc_rec with
  | h0 => rfl
  | h1 l s ih =>
    rw [sumS_snoc, List.length_append, List.length_singleton]
    show (sumS l).n + 1 = _
    rw [ih]
    rfl
theorem er_len (l : List Sp) : (sumS l).er = (l.filter fun s => decide (s.stt = 2)).length := by
  induction l using snoc_rec with
  | h0 => rfl
  | h1 l s ih =>
    rw [sumS_snoc, List.filter_append, List.length_append]
    show (if s.stt = 2 then (sumS l).er + 1 else (sumS l).er) = _
    by_cases h : s.stt = 2
    · rw [if_pos h, ih, List.filter_cons_of_pos (by simpa using h)]
      rfl
    · rw [if_neg h, ih, List.filter_cons_of_neg (by simpa using h)]
      simp
theorem er_app (a b : List Sp) : (sumS (a ++ b)).er = (sumS a).er + (sumS b).er := by
  rw [er_len, er_len, er_len, List.filter_append, List.length_append]
  omega
theorem n_app (a b : List Sp) : (sumS (a ++ b)).n = (sumS a).n + (sumS b).n := by
  rw [n_len, n_len, n_len, List.length_append]
  omega
theorem st_facts : ∀ {l : List Sp}, l ≠ [] → (∀ s ∈ l, (sumS l).st ≤ s.st) ∧ ∃ s ∈ l, s.st = (sumS l).st := by
  intro l
  induction l using snoc_rec with
  | h0 => intro h; exact absurd rfl h
  | h1 l s ih =>
    intro _
    rw [sumS_snoc]
    by_cases hl : l = []
    · subst hl
      refine ⟨fun x hx => ?_, s, by simp, rfl⟩
      rw [List.nil_append, List.mem_singleton] at hx
      rw [hx]
      exact Int.le_refl _
    · obtain ⟨h1, y, hy, e⟩ := ih hl
      have hv : (sum1 l (sumS l) s).st = min (sumS l).st s.st := by unfold sum1; simp only; rw [if_neg hl]
      rw [hv]
      refine ⟨fun x hx => ?_, ?_⟩
      · rcases List.mem_append.1 hx with hx | hx
        · have := h1 x hx; omega
        · rw [List.mem_singleton.1 hx]; omega
      · by_cases hle : (sumS l).st ≤ s.st
        · exact ⟨y, List.mem_append_left _ hy, by omega⟩
        · exact ⟨s, by simp, by omega⟩
theorem en_facts : ∀ {l : List Sp}, l ≠ [] → (∀ s ∈ l, enD s ≤ (sumS l).en) ∧ ∃ s ∈ l, enD s = (sumS l).en := by
  intro l
  induction l using snoc_rec with
  | h0 => intro h; exact absurd rfl h
  | h1 l s ih =>
    intro _
    rw [sumS_snoc]
    by_cases hl : l = []
    · subst hl
      refine ⟨fun x hx => ?_, s, by simp, rfl⟩
      rw [List.nil_append, List.mem_singleton] at hx
      rw [hx]
      exact Int.le_refl _
    · obtain ⟨h1, y, hy, e⟩ := ih hl
      have hv : (sum1 l (sumS l) s).en = max (sumS l).en (enD s) := by unfold sum1; simp only; rw [if_neg hl]
      rw [hv]
      refine ⟨fun x hx => ?_, ?_⟩
      · rcases List.mem_append.1 hx with hx | hx
        · have := h1 x hx; omega
        · rw [List.mem_singleton.1 hx]; omega
      · by_cases hle : enD s ≤ (sumS l).en
        · exact ⟨y, List.mem_append_left _ hy, by omega⟩
        · exact ⟨s, by simp, by omega⟩
theorem st_app {a b : List Sp} (ha : a ≠ []) (hb : b ≠ []) : (sumS (a ++ b)).st = min (sumS a).st (sumS b).st := by
  obtain ⟨h1, x, hx, ex⟩ := st_facts (l := a ++ b) (by simp [ha])
  obtain ⟨h2, y, hy, ey⟩ := st_facts ha
  obtain ⟨h3, z, hz, ez⟩ := st_facts hb
  have e1 := h1 y (List.mem_append_left _ hy)
  have e2 := h1 z (List.mem_append_right _ hz)
  rcases List.mem_append.1 hx with hx | hx
  · have := h2 x hx; omega
  · have := h3 x hx; omega
theorem en_app {a b : List Sp} (ha : a ≠ []) (hb : b ≠ []) : (sumS (a ++ b)).en = max (sumS a).en (sumS b).en := by
  obtain ⟨h1, x, hx, ex⟩ := en_facts (l := a ++ b) (by simp [ha])
  obtain ⟨h2, y, hy, ey⟩ := en_facts ha
  obtain ⟨h3, z, hz, ez⟩ := en_facts hb
  have e1 := h1 y (List.mem_append_left _ hy)
  have e2 := h1 z (List.mem_append_right _ hz)
  rcases List.mem_append.1 hx with hx | hx
  · have := h2 x hx; omega
  · have := h3 x hx; omega
theorem sum_comm (a b : List Sp) : sumS (a ++ b) = sumS (b ++ a) := by
  by_cases ha : a = []
  · subst ha; simp
  by_cases hb : b = []
  · subst hb; simp
  have e1 := n_app a b
  have e2 := n_app b a
  have e3 := er_app a b
  have e4 := er_app b a
  have e5 := st_app ha hb
  have e6 := st_app hb ha
  have e7 := en_app ha hb
  have e8 := en_app hb ha
  have e9 := (sv_app a b).2.2.2
  have e10 := (sv_app b a).2.2.2
  cases h : sumS (a ++ b) with
  | mk n er st en sv =>
    cases h2 : sumS (b ++ a) with
    | mk n2 er2 st2 en2 sv2 =>
      rw [h] at e1 e3 e5 e7 e9 e10
      rw [h2] at e2 e4 e6 e8 e9 e10
      simp only at e1 e2 e3 e4 e5 e6 e7 e8 e9 e10
      congr 1 <;> omega
end Go.Proofs.Ytoigebnhnkdbbaa.Tr
