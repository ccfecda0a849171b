/- Sums (chapter 26), plainly: what a sum of two lists is. No program in sight. -/
import Derived.Test.YtoigebnhnkdbbaaTrWay
import Derived.Test.YtoigebnhnkdbbaaPAllx6
import Derived.Test.YtoigebnhnkdbbaaPAllx7
import Derived.Test.YtoigebnhnkdbbaaTrBase
import Derived.Test.YtoigebnhnkdbbaaTrLast2
import Derived.Test.YtoigebnhnkdbbaaTrSum
import Derived.Test.YtoigebnhnkdbbaaReads
namespace Go.Proofs.Ytoigebnhnkdbbaa.Tr
open Go
set_option linter.unusedVariables false
open Classical in
/-- Is it among them? -/
noncomputable def memB (x : ByteArray) (l : List ByteArray) : Bool := decide (x ∈ l)
theorem memB_iff {x : ByteArray} {l : List ByteArray} : memB x l = true ↔ x ∈ l := by simp [memB]

theorem len_subB {β : Type} [DecidableEq β] : ∀ {l m : List β}, l.Pairwise (· ≠ ·) → (∀ x ∈ l, x ∈ m) → l.length ≤ m.length
  | [], _, _, _ => Nat.zero_le _
  | a :: l, m, hp, h => by
    obtain ⟨h1, h2⟩ := List.pairwise_cons.1 hp
    have ha := h a List.mem_cons_self
    have hlen : (m.erase a).length + 1 = m.length := by
      rw [List.length_erase_of_mem ha]
      have := List.length_pos_of_mem ha
      omega
    have ih := len_subB (l := l) (m := m.erase a) h2 (fun x hx => by
      rw [List.mem_erase_of_ne (fun e => h1 x hx e.symm)]
      exact h x (List.mem_cons_of_mem _ hx))
    simp only [List.length_cons]
    omega
/-- The services, each once. -/
noncomputable def svsL (l : List Sp) : List ByteArray := l.foldl (fun acc s => if memB s.svc acc = true then acc else acc ++ [s.svc]) []
theorem svsL_snoc (l : List Sp) (s : Sp) : svsL (l ++ [s]) = if memB s.svc (svsL l) = true then svsL l else svsL l ++ [s.svc] := by
  unfold svsL
  rw [List.foldl_append]
  rfl
theorem svsL_mem (l : List Sp) (x : ByteArray) : x ∈ svsL l ↔ ∃ s ∈ l, s.svc = x := by
  induction l using snoc_rec with
  | h0 => simp [svsL]
  | h1 l s ih =>
    rw [svsL_snoc]
    by_cases hm : s.svc ∈ svsL l
    · rw [if_pos (memB_iff.2 hm), ih]
      constructor
      · rintro ⟨y, hy, e⟩; exact ⟨y, List.mem_append_left _ hy, e⟩
      · rintro ⟨y, hy, e⟩
        rcases List.mem_append.1 hy with hy | hy
        · exact ⟨y, hy, e⟩
        · rw [List.mem_singleton.1 hy] at e
          rw [← ih, ← e]
          exact hm
    · rw [if_neg (fun e => hm (memB_iff.1 e)), List.mem_append, ih, List.mem_singleton]
      constructor
      · rintro (⟨y, hy, e⟩ | e)
        · exact ⟨y, List.mem_append_left _ hy, e⟩
        · exact ⟨s, by simp, e.symm⟩
      · rintro ⟨y, hy, e⟩
        rcases List.mem_append.1 hy with hy | hy
        · exact .inl ⟨y, hy, e⟩
        · rw [List.mem_singleton.1 hy] at e
          exact .inr e.symm
theorem svsL_apart (l : List Sp) : (svsL l).Pairwise (· ≠ ·) := by
  induction l using snoc_rec with
  | h0 => exact List.Pairwise.nil
  | h1 l s ih =>
    rw [svsL_snoc]
    split
    · exact ih
    · rename_i hm
      rw [List.pairwise_append]
      refine ⟨ih, List.pairwise_singleton _ _, fun x hx y hy => ?_⟩
      rw [List.mem_singleton.1 hy]
      intro e
      exact hm (memB_iff.2 (e ▸ hx))
theorem hasSvc_iff {l : List Sp} {x : ByteArray} : hasSvc l x = true ↔ x ∈ svsL l := by
  rw [svsL_mem]
  simp [hasSvc]
theorem sv_len (l : List Sp) : (sumS l).sv = (svsL l).length := by
  induction l using snoc_rec with
  | h0 => rfl
  | h1 l s ih =>
    rw [sumS_snoc, svsL_snoc]
    show (if hasSvc l s.svc = true then (sumS l).sv else (sumS l).sv + 1) = _
    by_cases h : s.svc ∈ svsL l
    · rw [if_pos (memB_iff.2 h), if_pos (hasSvc_iff.2 h), ih]
    · rw [if_neg (fun e => h (memB_iff.1 e)), if_neg (fun e => h (hasSvc_iff.1 e)), ih, List.length_append, List.length_singleton]
      rfl
theorem sv_app (a b : List Sp) : (sumS (a ++ b)).sv ≤ (sumS a).sv + (sumS b).sv ∧ (sumS a).sv ≤ (sumS (a ++ b)).sv ∧ (sumS b).sv ≤ (sumS (a ++ b)).sv ∧ (sumS (a ++ b)).sv ≤ (sumS (b ++ a)).sv := by
  simp only [sv_len]
  have h1 := len_subB (l := svsL (a ++ b)) (m := svsL a ++ svsL b) (svsL_apart _) (fun x hx => by
    obtain ⟨s, hs, e⟩ := (svsL_mem _ _).1 hx
    rw [List.mem_append, svsL_mem, svsL_mem]
    rcases List.mem_append.1 hs with hs | hs
    · exact .inl ⟨s, hs, e⟩
    · exact .inr ⟨s, hs, e⟩)
  have h2 := len_subB (l := svsL a) (m := svsL (a ++ b)) (svsL_apart _) (fun x hx => by
    obtain ⟨s, hs, e⟩ := (svsL_mem _ _).1 hx
    exact (svsL_mem _ _).2 ⟨s, List.mem_append_left _ hs, e⟩)
  have h3 := len_subB (l := svsL b) (m := svsL (a ++ b)) (svsL_apart _) (fun x hx => by
    obtain ⟨s, hs, e⟩ := (svsL_mem _ _).1 hx
    exact (svsL_mem _ _).2 ⟨s, List.mem_append_right _ hs, e⟩)
  have h4 := len_subB (l := svsL (a ++ b)) (m := svsL (b ++ a)) (svsL_apart _) (fun x hx => by
    obtain ⟨s, hs, e⟩ := (svsL_mem _ _).1 hx
    refine (svsL_mem _ _).2 ⟨s, ?_, e⟩
    rcases List.mem_append.1 hs with hs | hs
    · exact List.mem_append_right _ hs
    · exact List.mem_append_left _ hs)
  rw [List.length_append] at h1
  omega
theorem n_len (l : List Sp) : (sumS l).n = l.length := by
  induction l using snoc_rec with
  | h0 => rfl
  | h1 l s ih =>
    rw [sumS_snoc, List.length_append, List.length_singleton]
    show (sumS l).n + 1 = _
    rw [ih]
    rfl
theorem er_len (l : List Sp) : (sumS l).er = (l.filter fun s => decide (s.stt = 2)).length := by
  induction l using snoc_rec with
  | h0 => rfl
  | h1 l s ih =>
    rw [sumS_snoc, List.filter_append, List.length_append]
    show (if s.stt = 2 then (sumS l).er + 1 else (sumS l).er) = _
    by_cases h : s.stt = 2
    · rw [if_pos h, ih, List.filter_cons_of_pos (by simpa using h)]
      rfl
    · rw [if_neg h, ih, List.filter_cons_of_neg (by simpa using h)]
      simp
theorem er_app (a b : List Sp) : (sumS (a ++ b)).er = (sumS a).er + (sumS b).er := by
  rw [er_len, er_len, er_len, List.filter_append, List.length_append]
  omega
theorem n_app (a b : List Sp) : (sumS (a ++ b)).n = (sumS a).n + (sumS b).n := by
  rw [n_len, n_len, n_len, List.length_append]
  omega
theorem st_facts : ∀ {l : List Sp}, l ≠ [] → (∀ s ∈ l, (sumS l).st ≤ s.st) ∧ ∃ s ∈ l, s.st = (sumS l).st := by
  intro l
  induction l using snoc_rec with
  | h0 => intro h; exact absurd rfl h
  | h1 l s ih =>
    intro _
    rw [sumS_snoc]
    by_cases hl : l = []
    · subst hl
      refine ⟨fun x hx => ?_, s, by simp, rfl⟩
      rw [List.nil_append, List.mem_singleton] at hx
      rw [hx]
      exact Int.le_refl _
    · obtain ⟨h1, y, hy, e⟩ := ih hl
      have hv : (sum1 l (sumS l) s).st = min (sumS l).st s.st := by unfold sum1; simp only; rw [if_neg hl]
      rw [hv]
      refine ⟨fun x hx => ?_, ?_⟩
      · rcases List.mem_append.1 hx with hx | hx
        · have := h1 x hx; omega
        · rw [List.mem_singleton.1 hx]; omega
      · by_cases hle : (sumS l).st ≤ s.st
        · exact ⟨y, List.mem_append_left _ hy, by omega⟩
        · exact ⟨s, by simp, by omega⟩
theorem en_facts : ∀ {l : List Sp}, l ≠ [] → (∀ s ∈ l, enD s ≤ (sumS l).en) ∧ ∃ s ∈ l, enD s = (sumS l).en := by
  intro l
  induction l using snoc_rec with
  | h0 => intro h; exact absurd rfl h
  | h1 l s ih =>
    intro _
    rw [sumS_snoc]
    by_cases hl : l = []
    · subst hl
      refine ⟨fun x hx => ?_, s, by simp, rfl⟩
      rw [List.nil_append, List.mem_singleton] at hx
      rw [hx]
      exact Int.le_refl _
    · obtain ⟨h1, y, hy, e⟩ := ih hl
      have hv : (sum1 l (sumS l) s).en = max (sumS l).en (enD s) := by unfold sum1; simp only; rw [if_neg hl]
      rw [hv]
      refine ⟨fun x hx => ?_, ?_⟩
      · rcases List.mem_append.1 hx with hx | hx
        · have := h1 x hx; omega
        · rw [List.mem_singleton.1 hx]; omega
      · by_cases hle : enD s ≤ (sumS l).en
        · exact ⟨y, List.mem_append_left _ hy, by omega⟩
        · exact ⟨s, by simp, by omega⟩
theorem st_app {a b : List Sp} (ha : a ≠ []) (hb : b ≠ []) : (sumS (a ++ b)).st = min (sumS a).st (sumS b).st := by
  obtain ⟨h1, x, hx, ex⟩ := st_facts (l := a ++ b) (by simp [ha])
  obtain ⟨h2, y, hy, ey⟩ := st_facts ha
  obtain ⟨h3, z, hz, ez⟩ := st_facts hb
  have e1 := h1 y (List.mem_append_left _ hy)
  have e2 := h1 z (List.mem_append_right _ hz)
  rcases List.mem_append.1 hx with hx | hx
  · have := h2 x hx; omega
  · have := h3 x hx; omega
theorem en_app {a b : List Sp} (ha : a ≠ []) (hb : b ≠ []) : (sumS (a ++ b)).en = max (sumS a).en (sumS b).en := by
  obtain ⟨h1, x, hx, ex⟩ := en_facts (l := a ++ b) (by simp [ha])
  obtain ⟨h2, y, hy, ey⟩ := en_facts ha
  obtain ⟨h3, z, hz, ez⟩ := en_facts hb
  have e1 := h1 y (List.mem_append_left _ hy)
  have e2 := h1 z (List.mem_append_right _ hz)
  rcases List.mem_append.1 hx with hx | hx
  · have := h2 x hx; omega
  · have := h3 x hx; omega
theorem sum_comm (a b : List Sp) : sumS (a ++ b) = sumS (b ++ a) := by
  by_cases ha : a = []
  · subst ha; simp
  by_cases hb : b = []
  · subst hb; simp
  have e1 := n_app a b
  have e2 := n_app b a
  have e3 := er_app a b
  have e4 := er_app b a
  have e5 := st_app ha hb
  have e6 := st_app hb ha
  have e7 := en_app ha hb
  have e8 := en_app hb ha
  have e9 := (sv_app a b).2.2.2
  have e10 := (sv_app b a).2.2.2
  cases h : sumS (a ++ b) with
  | mk n er st en sv =>
    cases h2 : sumS (b ++ a) with
    | mk n2 er2 st2 en2 sv2 =>
      rw [h] at e1 e3 e5 e7 e9 e10
      rw [h2] at e2 e4 e6 e8 e9 e10
      simp only at e1 e2 e3 e4 e5 e6 e7 e8 e9 e10
      congr 1 <;> omega
end Go.Proofs.Ytoigebnhnkdbbaa.Tr

namespace Go.Proofs.Ytoigebnhnkdbbaa.Tr
open Go.RowKit Go.Proofs.YtoigebnhnkdbbaaW.PrintWords Go.Proofs.YtoigebnhnkdbbaaW.PrintLast Go.Proofs.YtoigebnhnkdbbaaW.PrintMore Go.Proofs.Ytoigebnhnkdbbaa.Math Go.Proofs.Ytoigebnhnkdbbaa.PAll
set_option linter.unusedVariables false
set_option linter.unusedSimpArgs false
theorem wsuc (i : Nat) (h : i < 9223372036854775807) : wrap64 ((i : Int) + 1) = ((i + 1 : Nat) : Int) := by unfold wrap64; omega
theorem small_l1 (a b c : Int) (s o : ByteArray) (d e f : Int) (A : List S64) (E : List S66) (L : List S68) (hE : E.length ≤ 9223372036854775807) (n : Nat) :
    ∀ (k i : Nat) (x : Int), E.length - i ≤ n → n < k → ∃ r, cambiumref16_Small.l1 k x (i : Int) a b c s o d e f A E L = some r := by
  induction n with
  | zero =>
    intro k i x h hk
    obtain ⟨k, rfl⟩ : ∃ j, k = j + 1 := ⟨k - 1, by omega⟩
    exact ⟨_, by rw [cambiumref16_Small.l1, if_neg (by omega)]⟩
  | succ n ih =>
    intro k i x h hk
    obtain ⟨k, rfl⟩ : ∃ j, k = j + 1 := ⟨k - 1, by omega⟩
    by_cases hlt : i < E.length
    · rw [cambiumref16_Small.l1, if_pos (by omega)]
      by_cases hx : x ≤ 6000
      · rw [if_pos hx, if_pos (by omega), wsuc i (by omega)]
        exact ih k (i + 1) _ (by omega) (by omega)
      · exact ⟨_, by rw [if_neg hx]⟩
    · exact ⟨_, by rw [cambiumref16_Small.l1, if_neg (by omega)]⟩
theorem small_l0 (a b c : Int) (s o : ByteArray) (d e f : Int) (A : List S64) (E : List S66) (L : List S68) (hA : A.length ≤ 9223372036854775807) (hE : E.length ≤ 9223372036854775807) (n : Nat) :
    ∀ (k i : Nat) (x : Int), A.length - i ≤ n → n + E.length + 2 < k → ∃ r, cambiumref16_Small.l0 k x (i : Int) a b c s o d e f A E L = some r := by
  have hend : ∀ (k : Nat) (x : Int), E.length + 1 < k → ∃ r, cambiumref16_Small.j1 k x a b c s o d e f A E L = some r := by
    intro k x hk
    obtain ⟨k, rfl⟩ : ∃ j, k = j + 1 := ⟨k - 1, by omega⟩
    rw [cambiumref16_Small.j1]
    exact small_l1 a b c s o d e f A E L hE E.length k 0 x (by omega) (by omega)
  induction n with
  | zero =>
    intro k i x h hk
    obtain ⟨k, rfl⟩ : ∃ j, k = j + 1 := ⟨k - 1, by omega⟩
    rw [cambiumref16_Small.l0, if_neg (by omega)]
    exact hend k x (by omega)
  | succ n ih =>
    intro k i x h hk
    obtain ⟨k, rfl⟩ : ∃ j, k = j + 1 := ⟨k - 1, by omega⟩
    by_cases hlt : i < A.length
    · rw [cambiumref16_Small.l0, if_pos (by omega)]
      by_cases hx : x ≤ 6000
      · rw [if_pos hx, if_pos (by omega), wsuc i (by omega)]
        exact ih k (i + 1) _ (by omega) (by omega)
      · rw [if_neg hx]
        exact hend k x (by omega)
    · rw [cambiumref16_Small.l0, if_neg (by omega)]
      exact hend k x (by omega)
theorem small_some (k : Nat) (a b c : Int) (s o : ByteArray) (d e f : Int) (A : List S64) (E : List S66) (L : List S68) (hA : A.length ≤ 9223372036854775807) (hE : E.length ≤ 9223372036854775807) (hk : A.length + E.length + 3 < k) :
    ∃ r, cambiumref16_Small.f k a b c s o d e f A E L = some r := by
  unfold cambiumref16_Small.f
  exact small_l0 a b c s o d e f A E L hA hE A.length k 0 _ (by omega) (by omega)

def Bnd (x : S38) : Prop := x.f5 ≤ 2305843009213693952 ∧ -2305843009213693952 ≤ x.f5 ∧ x.f6 ≤ 2305843009213693952 ∧ -2305843009213693952 ≤ x.f6
theorem small_go (xs : List S38) (hl : xs.length ≤ 80) (B : Nat) (hB : ∀ i : Nat, i < xs.length → (rd_T38 xs i).f8.length ≤ 9223372036854775807 ∧ (rd_T38 xs i).f9.length ≤ 9223372036854775807 ∧ (rd_T38 xs i).f8.length + (rd_T38 xs i).f9.length + 3 < B) (n : Nat) :
    ∀ (k i : Nat), xs.length - i ≤ n → n + B < k → ∃ r, cambiumlaw26_small.l0 k xs (i : Int) = some r ∧ (r = true → ∀ j : Nat, i ≤ j → j < xs.length → Bnd (rd_T38 xs j)) := by
  induction n with
  | zero =>
    intro k i h hk
    obtain ⟨k, rfl⟩ : ∃ j, k = j + 1 := ⟨k - 1, by omega⟩
    exact ⟨true, by rw [cambiumlaw26_small.l0, if_neg (by omega)], fun _ j h1 h2 => by omega⟩
  | succ n ih =>
    intro k i h hk
    obtain ⟨k, rfl⟩ : ∃ j, k = j + 1 := ⟨k - 1, by omega⟩
    by_cases hlt : i < xs.length
    · obtain ⟨h8, h9, hB2⟩ := hB i hlt
      rw [cambiumlaw26_small.l0, if_pos (by omega), if_pos (by omega)]
      obtain ⟨r, hr⟩ := small_some k ((rd_T38 xs i).f0) ((rd_T38 xs i).f1) ((rd_T38 xs i).f2) ((rd_T38 xs i).f3) ((rd_T38 xs i).f4) ((rd_T38 xs i).f5) ((rd_T38 xs i).f6) ((rd_T38 xs i).f7) ((rd_T38 xs i).f8) ((rd_T38 xs i).f9) ((rd_T38 xs i).f10) h8 h9 (by omega)
      rw [hr, Option.bind_some]
      cases r with
      | false => exact ⟨false, rfl, fun h => by cases h⟩
      | true =>
        rw [if_pos rfl]
        by_cases c1 : (rd_T38 xs i).f5 > 2305843009213693952
        · exact ⟨false, by rw [if_pos c1], fun h => by cases h⟩
        rw [if_neg c1]
        by_cases c2 : (rd_T38 xs i).f5 < (-2305843009213693952)
        · exact ⟨false, by rw [if_pos c2], fun h => by cases h⟩
        rw [if_neg c2]
        by_cases c3 : (rd_T38 xs i).f6 > 2305843009213693952
        · exact ⟨false, by rw [if_pos c3], fun h => by cases h⟩
        rw [if_neg c3]
        by_cases c4 : (rd_T38 xs i).f6 < (-2305843009213693952)
        · exact ⟨false, by rw [if_pos c4], fun h => by cases h⟩
        rw [if_neg c4, wsuc i (by omega)]
        obtain ⟨r2, h1, h2⟩ := ih k (i + 1) (by omega) (by omega)
        refine ⟨r2, h1, fun hr2 j h3 h4 => ?_⟩
        by_cases hji : j = i
        · rw [hji]; exact ⟨by omega, by omega, by omega, by omega⟩
        · exact h2 hr2 j (by omega) h4
    · exact ⟨true, by rw [cambiumlaw26_small.l0, if_neg (by omega)], fun _ j h1 h2 => by omega⟩
theorem bound_of (xs : List S38) : ∀ n, n ≤ xs.length → ∃ B : Nat, ∀ i : Nat, i < n → (rd_T38 xs i).f8.length + (rd_T38 xs i).f9.length + 3 < B := by
  intro n
  induction n with
  | zero => intro _; exact ⟨0, fun i h => by omega⟩
  | succ n ih =>
    intro h
    obtain ⟨B, hB⟩ := ih (by omega)
    refine ⟨B + (rd_T38 xs n).f8.length + (rd_T38 xs n).f9.length + 4, fun i hi => ?_⟩
    by_cases e : i = n
    · subst e; omega
    · have := hB i (by omega); omega
theorem small_tot (xs : List S38) (hb : ∀ i : Nat, i < xs.length → (rd_T38 xs i).f8.length ≤ 9223372036854775807 ∧ (rd_T38 xs i).f9.length ≤ 9223372036854775807) : ∃ K r, cambiumlaw26_small.f K xs = some r ∧ (r = true → xs.length ≤ 80 ∧ ∀ j : Nat, j < xs.length → Bnd (rd_T38 xs j)) := by
  by_cases hl : xs.length ≤ 80
  · obtain ⟨B, hB⟩ := bound_of xs xs.length (Nat.le_refl _)
    obtain ⟨r, h1, h2⟩ := small_go xs hl B (fun i hi => ⟨(hb i hi).1, (hb i hi).2, hB i hi⟩) xs.length (xs.length + B + 1) 0 (by omega) (by omega)
    exact ⟨xs.length + B + 1, r, by unfold cambiumlaw26_small.f; rw [if_neg (by omega)]; exact h1, fun hr => ⟨hl, fun j hj => h2 hr j (Nat.zero_le _) hj⟩⟩
  · exact ⟨0, false, by unfold cambiumlaw26_small.f; rw [if_pos (by omega)], fun h => by cases h⟩
end Go.Proofs.Ytoigebnhnkdbbaa.Tr

namespace Go.Proofs.Ytoigebnhnkdbbaa.Tr
open Go.RowKit Go.Proofs.YtoigebnhnkdbbaaW.PrintWords Go.Proofs.YtoigebnhnkdbbaaW.PrintLast Go.Proofs.YtoigebnhnkdbbaaW.PrintMore Go.Proofs.Ytoigebnhnkdbbaa.Math Go.Proofs.Ytoigebnhnkdbbaa.PAll Go.Proofs.Ytoigebnhnkdbbaa.MapG
set_option linter.unusedVariables false
set_option linter.unusedSimpArgs false

theorem flat_get : ∀ (L : List Sp) (j : Nat) (p : Sp) (q : Nat), L[j]? = some p → q < 11 → (L.flatMap encS)[j * 11 + q]? = (encS p)[q]?
  | [], j, p, q, h, _ => by simp at h
  | a :: L, 0, p, q, h, hq => by
    simp at h
    subst h
    rw [List.flatMap_cons, List.getElem?_append_left (by rw [encS_len]; omega)]
    simp
  | a :: L, j + 1, p, q, h, hq => by
    rw [List.flatMap_cons, List.getElem?_append_right (by rw [encS_len]; omega), encS_len, show (j + 1) * 11 + q - 11 = j * 11 + q by omega]
    exact flat_get L j p q (by simpa using h) hq
theorem flat_len (L : List Sp) : (L.flatMap encS).length = L.length * 11 := by
  induction L with
  | nil => rfl
  | cons a L ih => rw [List.flatMap_cons, List.length_append, ih, encS_len, List.length_cons]; omega
/-- A row laid as a literal. -/
theorem C_flat {w : World} {g : Nat} (L : List Sp) (hn : L.length ≤ 1000000) (h : w.heap[g]? = some (.cells (L.flatMap encS).toArray 38 (0, 0))) : Kd.C kS w (some ⟨g, 0, none⟩) L.length L :=
  (Kd.R_reads' (row_close (base := g) (c := L.length) rfl (Nat.le_refl _) h (Nat.le_refl _) (by unfold maxLen; omega) (by simpa using flat_len L) (fun j p hj q hq => by rw [List.getElem?_toArray]; exact flat_get L j p q hj hq))).2.2

def wa : Sp := ⟨0, 4, 9, ⟨#[]⟩, ⟨#[]⟩, 7, 0, 0, (none, 0, 0), (none, 0, 0), (none, 0, 0)⟩
def wb : Sp := ⟨0, 3, 2, ⟨#[]⟩, ⟨#[]⟩, 0, 0, 0, (none, 0, 0), (none, 0, 0), (none, 0, 0)⟩
def wc : Sp := ⟨0, 1, 0, ⟨#[]⟩, ⟨#[]⟩, 0, 0, 0, (none, 0, 0), (none, 0, 0), (none, 0, 0)⟩
def wd : Sp := ⟨0, 2, 1, ⟨#[]⟩, ⟨#[]⟩, 0, 0, 0, (none, 0, 0), (none, 0, 0), (none, 0, 0)⟩
def we : Sp := ⟨0, 1, 0, ⟨#[97]⟩, ⟨#[]⟩, 3, 4, 2, (none, 0, 0), (none, 0, 0), (none, 0, 0)⟩
theorem asm4 : asm (cnt [wa, wb, wc, wd]) = [⟨wc, 0, false⟩, ⟨wd, 1, false⟩, ⟨wb, 2, false⟩, ⟨wa, 0, true⟩] := rfl
theorem sum1_ : sumS [we] = ⟨1, 1, 3, 7, 1⟩ := rfl
theorem long1_ : long (cnt [wc]) = [wc] := rfl
theorem sml_e : ∀ s ∈ [we], Sml s := by
  intro s hs
  rw [List.mem_singleton.1 hs]
  unfold Sml we
  decide
theorem sml_c : ∀ s ∈ [wc], Sml s := by
  intro s hs
  rw [List.mem_singleton.1 hs]
  unfold Sml wc
  decide

set_option maxHeartbeats 4000000 in
set_option maxRecDepth 100000 in
theorem awake_calls (w : World) : Calls Try.prog 7 #[] w fun e w' => e = .returned (.bool true) ∧ Below w.heap.size w w' := by
  have hz1 := below_alloc (Below.refl w.heap.size w) (.cells ([wa, wb, wc, wd].flatMap encS).toArray 38)
  have hc1 := assemble_calls (some ⟨w.heap.size, 0, none⟩) 4 [wa, wb, wc, wd] (w.alloc (.cells ([wa, wb, wc, wd].flatMap encS).toArray 38)) (C_flat [wa, wb, wc, wd] (by simp) (heap_alloc_new w _)) (Nat.le_refl _) (by simp)
  rw [asm4, show ([wa, wb, wc, wd].flatMap encS).toArray = #[.int .u64 0, .int .u64 4, .int .u64 9, .string ⟨#[]⟩, .string ⟨#[]⟩, .int .i64 7, .int .i64 0, .int .i64 0, .slice none 0 0, .slice none 0 0, .slice none 0 0, .int .u64 0, .int .u64 3, .int .u64 2, .string ⟨#[]⟩, .string ⟨#[]⟩, .int .i64 0, .int .i64 0, .int .i64 0, .slice none 0 0, .slice none 0 0, .slice none 0 0, .int .u64 0, .int .u64 1, .int .u64 0, .string ⟨#[]⟩, .string ⟨#[]⟩, .int .i64 0, .int .i64 0, .int .i64 0, .slice none 0 0, .slice none 0 0, .slice none 0 0, .int .u64 0, .int .u64 2, .int .u64 1, .string ⟨#[]⟩, .string ⟨#[]⟩, .int .i64 0, .int .i64 0, .int .i64 0, .slice none 0 0, .slice none 0 0, .slice none 0 0] from rfl] at hc1
  rw [show ([wa, wb, wc, wd].flatMap encS).toArray = #[.int .u64 0, .int .u64 4, .int .u64 9, .string ⟨#[]⟩, .string ⟨#[]⟩, .int .i64 7, .int .i64 0, .int .i64 0, .slice none 0 0, .slice none 0 0, .slice none 0 0, .int .u64 0, .int .u64 3, .int .u64 2, .string ⟨#[]⟩, .string ⟨#[]⟩, .int .i64 0, .int .i64 0, .int .i64 0, .slice none 0 0, .slice none 0 0, .slice none 0 0, .int .u64 0, .int .u64 1, .int .u64 0, .string ⟨#[]⟩, .string ⟨#[]⟩, .int .i64 0, .int .i64 0, .int .i64 0, .slice none 0 0, .slice none 0 0, .slice none 0 0, .int .u64 0, .int .u64 2, .int .u64 1, .string ⟨#[]⟩, .string ⟨#[]⟩, .int .i64 0, .int .i64 0, .int .i64 0, .slice none 0 0, .slice none 0 0, .slice none 0 0] from rfl] at hz1
  have HC1 := Lib.hid hc1
  have HB1 := Lib.hid hz1
  clear hc1 hz1
  go_enter Try.func7, Try.ntmps7
  go_wp2_with fail
  generalize (w.alloc (.cells #[.int .u64 0, .int .u64 4, .int .u64 9, .string ⟨#[]⟩, .string ⟨#[]⟩, .int .i64 7, .int .i64 0, .int .i64 0, .slice none 0 0, .slice none 0 0, .slice none 0 0, .int .u64 0, .int .u64 3, .int .u64 2, .string ⟨#[]⟩, .string ⟨#[]⟩, .int .i64 0, .int .i64 0, .int .i64 0, .slice none 0 0, .slice none 0 0, .slice none 0 0, .int .u64 0, .int .u64 1, .int .u64 0, .string ⟨#[]⟩, .string ⟨#[]⟩, .int .i64 0, .int .i64 0, .int .i64 0, .slice none 0 0, .slice none 0 0, .slice none 0 0, .int .u64 0, .int .u64 2, .int .u64 1, .string ⟨#[]⟩, .string ⟨#[]⟩, .int .i64 0, .int .i64 0, .int .i64 0, .slice none 0 0, .slice none 0 0, .slice none 0 0] 38)) = w1 at HC1 HB1 ⊢
  refine HC1.out.mono ?_
  rintro e w2 ⟨v2, rfl, hr2, hb2⟩
  obtain ⟨ad, c2, rfl⟩ := Kd.R_slice1 hr2 (by simp)
  have HR2 := Lib.hid (Kd.R_reads' hr2).2.2
  have HB2 := Lib.hid (below_step HB1.out hb2)
  clear hr2 hb2 HC1 HB1
  have hz3 := below_alloc (Below.refl w2.heap.size w2) (.cells ([we].flatMap encS).toArray 38)
  have hc3 := sum_calls (some ⟨w2.heap.size, 0, none⟩) 1 [we] (w2.alloc (.cells ([we].flatMap encS).toArray 38)) (C_flat [we] (by simp) (heap_alloc_new w2 _)) (Nat.le_refl _) (by simp) sml_e
  rw [sum1_, show ([we].flatMap encS).toArray = #[.int .u64 0, .int .u64 1, .int .u64 0, .string ⟨#[97]⟩, .string ⟨#[]⟩, .int .i64 3, .int .i64 4, .int .i64 2, .slice none 0 0, .slice none 0 0, .slice none 0 0] from rfl] at hc3
  rw [show ([we].flatMap encS).toArray = #[.int .u64 0, .int .u64 1, .int .u64 0, .string ⟨#[97]⟩, .string ⟨#[]⟩, .int .i64 3, .int .i64 4, .int .i64 2, .slice none 0 0, .slice none 0 0, .slice none 0 0] from rfl] at hz3
  have HC3 := Lib.hid hc3
  have HB3 := Lib.hid (below_step HB2.out hz3)
  have HR3 := Lib.hid (Kd.C_below HR2.out hz3)
  clear hc3 hz3 HR2 HB2
  go_wp2_with fail
  generalize (w2.alloc (.cells #[.int .u64 0, .int .u64 1, .int .u64 0, .string ⟨#[97]⟩, .string ⟨#[]⟩, .int .i64 3, .int .i64 4, .int .i64 2, .slice none 0 0, .slice none 0 0, .slice none 0 0] 38)) = w3 at HC3 HB3 HR3 ⊢
  refine HC3.out.mono ?_
  rintro e w4 ⟨rfl, hb4⟩
  have HB4 := Lib.hid (below_step HB3.out hb4)
  have HR4 := Lib.hid (Kd.C_below HR3.out hb4)
  clear hb4 HC3 HB3 HR3
  have hz5 := below_alloc (Below.refl w4.heap.size w4) (.cells #[.int .i64 1, .int .i64 1, .int .i64 3, .int .i64 7, .int .i64 1] 29)
  have HB5 := Lib.hid (below_step HB4.out hz5)
  have HR5 := Lib.hid (Kd.C_below HR4.out hz5)
  have HK5 := Lib.hid (heap_alloc_new w4 (.cells #[.int .i64 1, .int .i64 1, .int .i64 3, .int .i64 7, .int .i64 1] 29))
  clear hz5 HR4 HB4
  go_upto_region 3 with (fail)
  generalize (w4.alloc (.cells #[.int .i64 1, .int .i64 1, .int .i64 3, .int .i64 7, .int .i64 1] 29)) = w5 at HB5 HR5 HK5 ⊢
  obtain ⟨ad0, he0, _, p1, _⟩ := at_L HR5.out (k := 0) (x := ⟨wc, 0, false⟩) rfl
  obtain ⟨ad2, he2, _, _, _, _, _, _, _, _, _, _, _, p2, _⟩ := at_L HR5.out (k := 2) (x := ⟨wb, 2, false⟩) rfl
  obtain ⟨ad3, he3, _, _, _, _, _, _, _, _, _, _, _, _, p3⟩ := at_L HR5.out (k := 3) (x := ⟨wa, 0, true⟩) rfl
  injection he0 with he0
  injection he2 with he2
  injection he3 with he3
  subst he0
  subst he2
  subst he3
  have ea : ad.add (0 * 13) = ad := by simp [Addr.add]
  rw [ea] at p1
  change w5.cell? ⟨ad.block, ad.off + 1, none⟩ = some (.int .u64 1) at p1
  change w5.cell? ⟨ad.block, ad.off + 26 + 11, none⟩ = some (.int .i64 2) at p2
  change w5.cell? ⟨ad.block, ad.off + 39 + 12, none⟩ = some (.bool true) at p3
  have s0 : w5.cell? ⟨w4.heap.size, 0, none⟩ = some (.int .i64 1) := (blk_cell HK5.out 0).trans rfl
  have s1 : w5.cell? ⟨w4.heap.size, 1, none⟩ = some (.int .i64 1) := (blk_cell HK5.out 1).trans rfl
  have s3 : w5.cell? ⟨w4.heap.size, 3, none⟩ = some (.int .i64 7) := (blk_cell HK5.out 3).trans rfl
  have hz6 := below_alloc (Below.refl w5.heap.size w5) (.cells ([wc].flatMap encS).toArray 38)
  have hc6 := longest_calls (some ⟨w5.heap.size, 0, none⟩) 1 [wc] (w5.alloc (.cells ([wc].flatMap encS).toArray 38)) (C_flat [wc] (by simp) (heap_alloc_new w5 _)) (Nat.le_refl _) (by simp) sml_c
  rw [long1_, show ([wc].flatMap encS).toArray = #[.int .u64 0, .int .u64 1, .int .u64 0, .string ⟨#[]⟩, .string ⟨#[]⟩, .int .i64 0, .int .i64 0, .int .i64 0, .slice none 0 0, .slice none 0 0, .slice none 0 0] from rfl] at hc6
  rw [show ([wc].flatMap encS).toArray = #[.int .u64 0, .int .u64 1, .int .u64 0, .string ⟨#[]⟩, .string ⟨#[]⟩, .int .i64 0, .int .i64 0, .int .i64 0, .slice none 0 0, .slice none 0 0, .slice none 0 0] from rfl] at hz6
  rw [show [wc].length = 1 from rfl] at hc6
  have HC6 := Lib.hid hc6
  have HB6 := Lib.hid (below_step HB5.out hz6)
  clear hc6 hz6 ea HR5 HK5 HB5
  go_wp2_with fail
  generalize (w5.alloc (.cells #[.int .u64 0, .int .u64 1, .int .u64 0, .string ⟨#[]⟩, .string ⟨#[]⟩, .int .i64 0, .int .i64 0, .int .i64 0, .slice none 0 0, .slice none 0 0, .slice none 0 0] 38)) = w6 at HC6 HB6 ⊢
  refine HC6.out.mono ?_
  rintro e w7 ⟨v7, rfl, hr7, hb7⟩
  obtain ⟨A7, c7, rfl⟩ := Kd.R_slice hr7
  have HB7 := Lib.hid (below_step HB6.out hb7)
  clear hr7 hb7 HC6 HB6
  go_wp2
  go_ret
  exact ⟨rfl, HB7.out⟩

end Go.Proofs.Ytoigebnhnkdbbaa.Tr

namespace Go.Proofs.Ytoigebnhnkdbbaa.Tr
open Go.RowKit Go.Proofs.YtoigebnhnkdbbaaW.PrintWords Go.Proofs.YtoigebnhnkdbbaaW.PrintLast Go.Proofs.YtoigebnhnkdbbaaW.PrintMore Go.Proofs.Ytoigebnhnkdbbaa.Math Go.Proofs.Ytoigebnhnkdbbaa.PAll Go.Proofs.Ytoigebnhnkdbbaa.Open
set_option linter.unusedVariables false
set_option linter.unusedSimpArgs false

def aggM (x : Sm) : Value := .agg #[.int .i64 x.n, .int .i64 x.er, .int .i64 x.st, .int .i64 x.en, .int .i64 x.sv]
theorem eqA29 (d : Nat) (w : World) (x0 y0 x1 y1 x2 y2 x3 y3 x4 y4 : Int) :
    (Op.equalIn (d + 2) 29 (.agg #[.int .i64 x0, .int .i64 x1, .int .i64 x2, .int .i64 x3, .int .i64 x4]) (.agg #[.int .i64 y0, .int .i64 y1, .int .i64 y2, .int .i64 y3, .int .i64 y4])).run Try.prog w = .ok (x0 == y0 && (x1 == y1 && (x2 == y2 && (x3 == y3 && (x4 == y4))))) w := by
  refine eqA_of Try.underlying29 (by kernel_rfl) ?_
  refine eqf_cons (by rfl) (by go_simp; rfl) (by go_simp; rfl) (by go_simp) ?_
  refine eqf_cons (by rfl) (by go_simp; rfl) (by go_simp; rfl) (by go_simp) ?_
  refine eqf_cons (by rfl) (by go_simp; rfl) (by go_simp; rfl) (by go_simp) ?_
  refine eqf_cons (by rfl) (by go_simp; rfl) (by go_simp; rfl) (by go_simp) ?_
  exact eqf_last (by rfl) (by go_simp; rfl) (by go_simp; rfl) (by go_simp)
theorem neq29 (w : World) (x0 x1 x2 x3 x4 : Int) : (binOp .neq 29 (.agg #[.int .i64 x0, .int .i64 x1, .int .i64 x2, .int .i64 x3, .int .i64 x4]) (.agg #[.int .i64 x0, .int .i64 x1, .int .i64 x2, .int .i64 x3, .int .i64 x4])).run Try.prog w = .ok (.bool false) w := by
  have h := eqA29 9998 w x0 x0 x1 x1 x2 x2 x3 x3 x4 x4
  simp only [beq_self_eq_true, Bool.and_self] at h
  rw [show 9998 + 2 = Op.maxDepth from rfl] at h
  simp [binOp, Op.equal, h, Result.andThen]
theorem eql29 (w : World) (x0 x1 x2 x3 x4 : Int) : (binOp .eql 29 (.agg #[.int .i64 x0, .int .i64 x1, .int .i64 x2, .int .i64 x3, .int .i64 x4]) (.agg #[.int .i64 x0, .int .i64 x1, .int .i64 x2, .int .i64 x3, .int .i64 x4])).run Try.prog w = .ok (.bool true) w := by
  have h := eqA29 9998 w x0 x0 x1 x1 x2 x2 x3 x3 x4 x4
  simp only [beq_self_eq_true, Bool.and_self] at h
  rw [show 9998 + 2 = Op.maxDepth from rfl] at h
  simp [binOp, Op.equal, h, Result.andThen]
/-- What a row that comes in is: raw spans; small tells, and then no sum overflows. -/
theorem incoming {W : World} {A : Option Addr} {l : List S38} (hc : Kd.C k38 W A l.length l) : ∃ (rs : List Sp) (K : Nat) (r : Bool), rs.length = l.length ∧ Kd.C kS W A rs.length rs ∧ (∀ (j : Nat) (s : Sp), rs[j]? = some s → ∃ x, l[j]? = some x ∧ Is W s x) ∧ cambiumlaw26_small.f K l = some r ∧ (r = true → rs.length ≤ 80 ∧ ∀ s ∈ rs, Sml s) := by
  obtain ⟨rs, hlen, hC, hI⟩ := raw_of hc
  have hrd : ∀ (j : Nat) (x : S38), l[j]? = some x → rd_T38 l j = x := by
    intro j x h
    show l.getD (j : Int).toNat _ = x
    rw [Int.toNat_natCast, List.getD_eq_getElem?_getD, h]
    rfl
  obtain ⟨K, r, h1, h2⟩ := small_tot l (fun i hi => by
    obtain ⟨s, hs⟩ : ∃ s, rs[i]? = some s := ⟨_, List.getElem?_eq_getElem (by omega)⟩
    obtain ⟨x, hx, hIs⟩ := hI i s hs
    rw [hrd i x hx]
    obtain ⟨A8, c8, A9, c9, A10, c10, _, _, g8, _, g9, _⟩ := k38_open hIs
    exact ⟨g8.2.1, g9.2.1⟩)
  refine ⟨rs, K, r, hlen, by rw [hlen]; exact hC, hI, h1, fun hr => ?_⟩
  obtain ⟨h3, h4⟩ := h2 hr
  refine ⟨by omega, fun s hs => ?_⟩
  obtain ⟨j, hj⟩ := List.mem_iff_getElem?.1 hs
  obtain ⟨x, hx, hIs⟩ := hI j s hj
  have hjl := (List.getElem?_eq_some_iff.1 hx).1
  have hb := h4 j hjl
  rw [hrd j x hx] at hb
  obtain ⟨_, _, _, _, _, e5, e6, _⟩ := hIs.fields
  obtain ⟨b1, b2, b3, b4⟩ := hb
  rw [e5] at b1 b2
  rw [e6] at b3 b4
  exact ⟨b2, b1, b4, b3⟩
end Go.Proofs.Ytoigebnhnkdbbaa.Tr
