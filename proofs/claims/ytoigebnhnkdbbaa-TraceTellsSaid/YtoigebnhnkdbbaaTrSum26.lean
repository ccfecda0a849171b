/- ref26.Sum is sumS (chapter 26). -/
import Derived.Test.YtoigebnhnkdbbaaPAllx11
import Derived.Test.YtoigebnhnkdbbaaTrIn
import Derived.Test.YtoigebnhnkdbbaaTrKinds
import Derived.Test.YtoigebnhnkdbbaaTrLong26
import Derived.Test.YtoigebnhnkdbbaaTrSum
namespace Go.Proofs.Ytoigebnhnkdbbaa.Tr
open Go.RowKit Go.Proofs.YtoigebnhnkdbbaaW.PrintWords Go.Proofs.YtoigebnhnkdbbaaW.PrintLast Go.Proofs.YtoigebnhnkdbbaaW.PrintMore Go.Proofs.Ytoigebnhnkdbbaa.Math Go.Proofs.Ytoigebnhnkdbbaa.PAll
set_option linter.unusedVariables false
set_option linter.unusedSimpArgs false
/-- What the reference reads of the spans. -/
structure Rd26 (xs : List S38) (rs : List Sp) : Prop where
  len : xs.length = rs.length
  few : rs.length ≤ 1000000
  rd : ∀ (i : Nat) (s : Sp), rs[i]? = some s → (rd_T38 xs i).f3 = s.svc ∧ (rd_T38 xs i).f5 = s.st ∧ (rd_T38 xs i).f6 = s.du ∧ (rd_T38 xs i).f7 = s.stt
  sml : ∀ s ∈ rs, Sml s
theorem hasSvc_take {rs : List Sp} {j : Nat} {t : Sp} (h : rs[j]? = some t) (v : ByteArray) : hasSvc (rs.take (j + 1)) v = (hasSvc (rs.take j) v || decide (t.svc = v)) := by
  obtain ⟨hj, e⟩ := List.getElem?_eq_some_iff.1 h
  rw [List.take_succ_eq_append_getElem hj, e]
  simp [hasSvc]
theorem bytes_ne (a b : ByteArray) : (a.toList != b.toList) = !decide (a = b) := by
  by_cases h : a = b
  · subst h; simp
  · have h2 : a.toList ≠ b.toList := fun e => h (by rw [ByteArray.toList_eq, ByteArray.toList_eq] at e; cases a; cases b; congr 1; exact Array.toList_inj.1 e)
    rw [decide_eq_false h]
    simpa using h2
theorem sum26_l1 {xs : List S38} {rs : List Sp} (H : Rd26 xs rs) {i : Nat} {s : Sp} (hs : rs[i]? = some s) (a b c d e : Int) : ∀ (n K j : Nat), j ≤ i → i - j = n → cambiumref26_Sum.l1 (K + n + 1) xs (i : Int) (!hasSvc (rs.take j) s.svc) (j : Int) a b c d e = cambiumref26_Sum.l0 K xs ((i + 1 : Nat) : Int) a b c d (if hasSvc (rs.take i) s.svc = true then e else wrap64 (e + 1)) := by
  have hi := (List.getElem?_eq_some_iff.1 hs).1
  have hf := H.few
  have hl := H.len
  intro n
  induction n with
  | zero =>
    intro K j hj hn
    obtain rfl : j = i := by omega
    rw [cambiumref26_Sum.l1, if_neg (by omega), show wrap64 ((j : Int) + 1) = ((j + 1 : Nat) : Int) by unfold wrap64; omega]
    cases hasSvc (rs.take j) s.svc <;> rfl
  | succ n ih =>
    intro K j hj hn
    obtain ⟨t, ht⟩ : ∃ t, rs[j]? = some t := ⟨_, List.getElem?_eq_getElem (by omega)⟩
    have h1 := (H.rd j t ht).1
    have h2 := (H.rd i s hs).1
    have e2 := hasSvc_take ht s.svc
    rw [show K + (n + 1) + 1 = (K + n + 1) + 1 by omega, cambiumref26_Sum.l1, if_pos (by omega), h1, h2, show wrap64 ((j : Int) + 1) = ((j + 1 : Nat) : Int) by unfold wrap64; omega, bytes_ne]
    have := ih K (j + 1) (by omega) (by omega)
    rw [e2] at this
    cases hq : hasSvc (rs.take j) s.svc with
    | true =>
      rw [hq] at this
      rw [if_neg (by decide)]
      exact this
    | false =>
      rw [hq, Bool.false_or] at this
      rw [if_pos (show (!false) = true from rfl), if_pos (by omega), if_pos (by omega), if_pos (by omega), if_pos (by omega)]
      exact this
theorem sum26_step {xs : List S38} {rs : List Sp} (H : Rd26 xs rs) {i : Nat} {s : Sp} (hs : rs[i]? = some s) (K : Nat) : cambiumref26_Sum.l0 (K + i + 1 + 6) xs (i : Int) (sumS (rs.take i)).n (sumS (rs.take i)).er (sumS (rs.take i)).st (sumS (rs.take i)).en (sumS (rs.take i)).sv =
    cambiumref26_Sum.l0 K xs ((i + 1 : Nat) : Int) (sumS (rs.take (i + 1))).n (sumS (rs.take (i + 1))).er (sumS (rs.take (i + 1))).st (sumS (rs.take (i + 1))).en (sumS (rs.take (i + 1))).sv := by
  obtain ⟨hi, he⟩ := List.getElem?_eq_some_iff.1 hs
  have hf := H.few
  have hl := H.len
  have hw : wrap64 (s.st + s.du) = enD s := (H.sml s (List.mem_of_getElem? hs)).add'
  obtain ⟨_, h5, h6, h7⟩ := H.rd i s hs
  have hsn : sumS (rs.take (i + 1)) = sum1 (rs.take i) (sumS (rs.take i)) s := by rw [List.take_succ_eq_append_getElem hi, he, sumS_snoc]
  have hb := sumS_bounds (rs.take i)
  rw [List.length_take] at hb
  rw [hsn]
  generalize sumS (rs.take i) = x at hb ⊢
  have hl1 := sum26_l1 H hs
  have wn : wrap64 (x.n + 1) = x.n + 1 := by unfold wrap64; omega
  have we : wrap64 (x.er + 1) = x.er + 1 := by unfold wrap64; omega
  have ws : wrap64 (x.sv + 1) = x.sv + 1 := by unfold wrap64; omega
  have hj5 : ∀ (er st en : Int), cambiumref26_Sum.j5 (K + i + 1 + 1) xs (i : Int) x.n er st en x.sv = cambiumref26_Sum.l0 K xs ((i + 1 : Nat) : Int) (x.n + 1) er st en (if hasSvc (rs.take i) s.svc = true then x.sv else x.sv + 1) := by
    intro er st en
    rw [cambiumref26_Sum.j5, wn]
    have := hl1 (x.n + 1) er st en x.sv i K 0 (Nat.zero_le _) rfl
    rw [ws] at this
    exact this
  have hj4 : ∀ (st en : Int), cambiumref26_Sum.j4 (K + i + 1 + 2) xs (i : Int) x.n x.er st en x.sv = cambiumref26_Sum.l0 K xs ((i + 1 : Nat) : Int) (x.n + 1) (if s.stt = 2 then x.er + 1 else x.er) st en (if hasSvc (rs.take i) s.svc = true then x.sv else x.sv + 1) := by
    intro st en
    rw [cambiumref26_Sum.j4, if_pos (by omega), if_pos (by omega), h7, we]
    by_cases h : s.stt = 2
    · rw [if_pos h, if_pos h, hj5]
    · rw [if_neg h, if_neg h, hj5]
  have hj2 : ∀ (st : Int), cambiumref26_Sum.j2 (K + i + 1 + 4) xs (i : Int) (enD s) x.n x.er st x.en x.sv = cambiumref26_Sum.l0 K xs ((i + 1 : Nat) : Int) (x.n + 1) (if s.stt = 2 then x.er + 1 else x.er) st (if rs.take i = [] then enD s else max x.en (enD s)) (if hasSvc (rs.take i) s.svc = true then x.sv else x.sv + 1) := by
    intro st
    rw [cambiumref26_Sum.j2]
    by_cases h0 : i = 0
    · have e0 : rs.take i = [] := by rw [h0]; rfl
      rw [if_pos (by omega), cambiumref26_Sum.j3, if_pos rfl, hj4, if_pos e0]
    · have e0 : rs.take i ≠ [] := fun e => (List.take_eq_nil_iff.1 e).elim h0 (fun h => by rw [h] at hi; cases hi)
      rw [if_neg (by omega), cambiumref26_Sum.j3, if_neg e0]
      by_cases h : enD s > x.en
      · rw [if_pos (decide_eq_true h), hj4, show max x.en (enD s) = enD s by omega]
      · rw [if_neg (by simpa using h), hj4, show max x.en (enD s) = x.en by omega]
  rw [cambiumref26_Sum.l0, if_pos (by omega), if_pos (by omega), h5, h6, hw]
  show _ = cambiumref26_Sum.l0 K xs ((i + 1 : Nat) : Int) (x.n + 1) (if s.stt = 2 then x.er + 1 else x.er) (if rs.take i = [] then s.st else min x.st s.st) (if rs.take i = [] then enD s else max x.en (enD s)) (if hasSvc (rs.take i) s.svc = true then x.sv else x.sv + 1)
  by_cases h0 : i = 0
  · have e0 : rs.take i = [] := by rw [h0]; rfl
    rw [if_pos (by omega), cambiumref26_Sum.j1, if_pos rfl, if_pos (by omega), if_pos (by omega), h5, hj2, if_pos e0, if_pos e0]
  · have e0 : rs.take i ≠ [] := fun e => (List.take_eq_nil_iff.1 e).elim h0 (fun h => by rw [h] at hi; cases hi)
    rw [if_neg (by omega), cambiumref26_Sum.j1]
    by_cases h : s.st < x.st
    · rw [if_pos (decide_eq_true h), if_pos (by omega), if_pos (by omega), h5, hj2, if_neg e0, if_neg e0, show min x.st s.st = s.st by omega]
    · rw [if_neg (by simpa using h), hj2, if_neg e0, if_neg e0, show min x.st s.st = x.st by omega]
theorem sum26_go {xs : List S38} {rs : List Sp} (H : Rd26 xs rs) : ∀ (n i : Nat), i + n = rs.length → ∃ K, cambiumref26_Sum.l0 K xs (i : Int) (sumS (rs.take i)).n (sumS (rs.take i)).er (sumS (rs.take i)).st (sumS (rs.take i)).en (sumS (rs.take i)).sv = some ((sumS rs).n, (sumS rs).er, (sumS rs).st, (sumS rs).en, (sumS rs).sv)
  | 0, i, h => ⟨1, by
    have hl := H.len
    rw [cambiumref26_Sum.l0, if_neg (by omega), show rs.take i = rs from List.take_of_length_le (by omega)]⟩
  | n + 1, i, h => by
    obtain ⟨K, hK⟩ := sum26_go H n (i + 1) (by omega)
    obtain ⟨s, hs⟩ : ∃ s, rs[i]? = some s := ⟨_, List.getElem?_eq_getElem (by omega)⟩
    exact ⟨K + i + 1 + 6, by rw [sum26_step H hs K]; exact hK⟩
theorem sum26_eq {xs : List S38} {rs : List Sp} (H : Rd26 xs rs) : ∃ K, cambiumref26_Sum.f K xs = some ((sumS rs).n, (sumS rs).er, (sumS rs).st, (sumS rs).en, (sumS rs).sv) := by
  obtain ⟨K, hK⟩ := sum26_go H rs.length 0 (by omega)
  exact ⟨K, hK⟩
end Go.Proofs.Ytoigebnhnkdbbaa.Tr
