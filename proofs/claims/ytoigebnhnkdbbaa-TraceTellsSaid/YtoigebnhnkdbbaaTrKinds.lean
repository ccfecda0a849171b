/- A span is as itself; so rows of spans, and of lines, are as themselves (chapter 26). -/
import Derived.Test.YtoigebnhnkdbbaaPAllx8
import Derived.Test.YtoigebnhnkdbbaaPAllx12
import Derived.Test.YtoigebnhnkdbbaaPAllx9
import Derived.Test.YtoigebnhnkdbbaaTrBase
namespace Go.Proofs.Ytoigebnhnkdbbaa.Tr
open Go.RowKit Go.Proofs.YtoigebnhnkdbbaaW.PrintWords Go.Proofs.YtoigebnhnkdbbaaW.PrintLast Go.Proofs.YtoigebnhnkdbbaaW.PrintMore Go.Proofs.Ytoigebnhnkdbbaa.PAll
set_option linter.unusedVariables false
set_option linter.unusedSimpArgs false
theorem wsucR (i : Nat) (h : i < 9223372036854775807) : wrap64 ((i : Int) + 1) = ((i + 1 : Nat) : Int) := by unfold wrap64; omega
variable (a b c : Int) (s o : ByteArray) (d e f : Int) (A : List S64) (E : List S66) (L : List S68)
theorem same_l2 (hL : L.length ≤ 9223372036854775807) (n : Nat) : ∀ (k i : Nat), L.length - i ≤ n → n < k → cambiumref16_Same.l2 k (i : Int) a b c s o d e f A E L a b c s o d e f A E L = some true := by
  induction n with
  | zero =>
    intro k i h hk
    obtain ⟨k, rfl⟩ : ∃ j, k = j + 1 := ⟨k - 1, by omega⟩
    rw [cambiumref16_Same.l2, if_neg (by omega)]
  | succ n ih =>
    intro k i h hk
    obtain ⟨k, rfl⟩ : ∃ j, k = j + 1 := ⟨k - 1, by omega⟩
    by_cases hlt : i < L.length
    · rw [cambiumref16_Same.l2, if_pos (by omega), if_pos (by omega), if_pos (by omega), if_neg (by simp), wsucR i (by omega)]
      exact ih k (i + 1) (by omega) (by omega)
    · rw [cambiumref16_Same.l2, if_neg (by omega)]
theorem same_l1 (hE : E.length ≤ 9223372036854775807) (hL : L.length ≤ 9223372036854775807) (n : Nat) : ∀ (k i : Nat), E.length - i ≤ n → n + L.length + 1 < k → cambiumref16_Same.l1 k (i : Int) a b c s o d e f A E L a b c s o d e f A E L = some true := by
  induction n with
  | zero =>
    intro k i h hk
    obtain ⟨k, rfl⟩ : ∃ j, k = j + 1 := ⟨k - 1, by omega⟩
    rw [cambiumref16_Same.l1, if_neg (by omega)]
    exact same_l2 a b c s o d e f A E L hL L.length k 0 (by omega) (by omega)
  | succ n ih =>
    intro k i h hk
    obtain ⟨k, rfl⟩ : ∃ j, k = j + 1 := ⟨k - 1, by omega⟩
    by_cases hlt : i < E.length
    · rw [cambiumref16_Same.l1, if_pos (by omega), if_pos (by omega), if_pos (by omega), if_neg (by simp), wsucR i (by omega)]
      exact ih k (i + 1) (by omega) (by omega)
    · rw [cambiumref16_Same.l1, if_neg (by omega)]
      exact same_l2 a b c s o d e f A E L hL L.length k 0 (by omega) (by omega)
theorem same_l0 (hA : A.length ≤ 9223372036854775807) (hE : E.length ≤ 9223372036854775807) (hL : L.length ≤ 9223372036854775807) (n : Nat) : ∀ (k i : Nat), A.length - i ≤ n → n + E.length + L.length + 2 < k → cambiumref16_Same.l0 k (i : Int) a b c s o d e f A E L a b c s o d e f A E L = some true := by
  induction n with
  | zero =>
    intro k i h hk
    obtain ⟨k, rfl⟩ : ∃ j, k = j + 1 := ⟨k - 1, by omega⟩
    rw [cambiumref16_Same.l0, if_neg (by omega)]
    exact same_l1 a b c s o d e f A E L hE hL E.length k 0 (by omega) (by omega)
  | succ n ih =>
    intro k i h hk
    obtain ⟨k, rfl⟩ : ∃ j, k = j + 1 := ⟨k - 1, by omega⟩
    by_cases hlt : i < A.length
    · rw [cambiumref16_Same.l0, if_pos (by omega), if_pos (by omega), if_pos (by omega), if_neg (by simp), wsucR i (by omega)]
      exact ih k (i + 1) (by omega) (by omega)
    · rw [cambiumref16_Same.l0, if_neg (by omega)]
      exact same_l1 a b c s o d e f A E L hE hL E.length k 0 (by omega) (by omega)
theorem same_refl (hA : A.length ≤ 9223372036854775807) (hE : E.length ≤ 9223372036854775807) (hL : L.length ≤ 9223372036854775807) (k : Nat) (hk : A.length + E.length + L.length + 3 < k) : cambiumref16_Same.f k a b c s o d e f A E L a b c s o d e f A E L = some true := by
  obtain ⟨k, rfl⟩ : ∃ j, k = j + 1 := ⟨k - 1, by omega⟩
  unfold cambiumref16_Same.f
  rw [if_pos rfl, if_pos rfl, if_pos rfl, if_pos rfl, if_pos rfl, if_pos rfl, if_pos rfl, if_pos rfl, if_pos rfl, if_pos rfl]
  rw [cambiumref16_Same.j0, if_neg (by simp)]
  exact same_l0 a b c s o d e f A E L hA hE hL A.length k 0 (by omega) (by omega)
/-- What a span asks in rounds, and that its rows are no longer than a row may be. -/
def Fin1 (x : S38) (B : Nat) : Prop := x.f8.length ≤ 9223372036854775807 ∧ x.f9.length ≤ 9223372036854775807 ∧ x.f10.length ≤ 9223372036854775807 ∧ x.f8.length + x.f9.length + x.f10.length + 3 < B
theorem spans_refl (xs : List S38) (hl : xs.length ≤ 1000000) (B : Nat) (hB : ∀ i : Nat, i < xs.length → Fin1 (rd_T38 xs i) B) : cambiumref16_Spans.f (xs.length + B + 1) xs xs = some true := by
  unfold cambiumref16_Spans.f
  rw [if_pos rfl]
  have go : ∀ (n k i : Nat), xs.length - i ≤ n → n + B < k → cambiumref16_Spans.l0 k xs xs (i : Int) = some true := by
    intro n
    induction n with
    | zero =>
      intro k i h hk
      obtain ⟨k, rfl⟩ : ∃ j, k = j + 1 := ⟨k - 1, by omega⟩
      rw [cambiumref16_Spans.l0, if_neg (by omega)]
    | succ n ih =>
      intro k i h hk
      obtain ⟨k, rfl⟩ : ∃ j, k = j + 1 := ⟨k - 1, by omega⟩
      by_cases hlt : i < xs.length
      · obtain ⟨h8, h9, h10, h11⟩ := hB i hlt
        rw [cambiumref16_Spans.l0, if_pos (by omega), if_pos (by omega), if_pos (by omega), same_refl _ _ _ _ _ _ _ _ _ _ _ h8 h9 h10 k (by omega), Option.bind_some, if_pos rfl, wsucR i (by omega)]
        exact ih k (i + 1) (by omega) (by omega)
      · rw [cambiumref16_Spans.l0, if_neg (by omega)]
  exact go xs.length _ 0 (by omega) (by omega)
theorem lines_refl (xs : List S40) (hl : xs.length ≤ 1000000) (B : Nat) (hB : ∀ i : Nat, i < xs.length → Fin1 (rd_T40 xs i).f0 B) : cambiumlaw26_Lines.f (xs.length + B + 1) xs xs = some true := by
  unfold cambiumlaw26_Lines.f
  rw [if_pos rfl]
  have go : ∀ (n k i : Nat), xs.length - i ≤ n → n + B < k → cambiumlaw26_Lines.l0 k xs xs (i : Int) = some true := by
    intro n
    induction n with
    | zero =>
      intro k i h hk
      obtain ⟨k, rfl⟩ : ∃ j, k = j + 1 := ⟨k - 1, by omega⟩
      rw [cambiumlaw26_Lines.l0, if_neg (by omega)]
    | succ n ih =>
      intro k i h hk
      obtain ⟨k, rfl⟩ : ∃ j, k = j + 1 := ⟨k - 1, by omega⟩
      by_cases hlt : i < xs.length
      · obtain ⟨h8, h9, h10, h11⟩ := hB i hlt
        rw [cambiumlaw26_Lines.l0, if_pos (by omega), if_pos (by omega), if_pos (by omega), same_refl _ _ _ _ _ _ _ _ _ _ _ h8 h9 h10 k (by omega), Option.bind_some, if_pos rfl, if_pos rfl, if_neg (by simp), wsucR i (by omega)]
        exact ih k (i + 1) (by omega) (by omega)
      · rw [cambiumlaw26_Lines.l0, if_neg (by omega)]
  exact go xs.length _ 0 (by omega) (by omega)
end Go.Proofs.Ytoigebnhnkdbbaa.Tr

namespace Go.Proofs.Ytoigebnhnkdbbaa.Tr
open Go.RowKit Go.Proofs.YtoigebnhnkdbbaaW.PrintWords Go.Proofs.YtoigebnhnkdbbaaW.PrintLast Go.Proofs.YtoigebnhnkdbbaaW.PrintMore Go.Proofs.Ytoigebnhnkdbbaa.Math Go.Proofs.Ytoigebnhnkdbbaa.PAll
set_option linter.unusedVariables false
set_option linter.unusedSimpArgs false
def nilS : S38 := ⟨0, 0, 0, ⟨#[]⟩, ⟨#[]⟩, 0, 0, 0, [], [], []⟩
/-- What the spans of a row that came in are. -/
theorem is_all {W : World} {rs : List Sp} {l : List S38} (hI : ∀ (j : Nat) (s : Sp), rs[j]? = some s → ∃ x, l[j]? = some x ∧ Is W s x) : ∃ f : Sp → S38, ∀ s ∈ rs, Is W s (f s) := by
  have key : ∀ s : Sp, ∃ x, s ∈ rs → Is W s x := by
    intro s
    by_cases h : s ∈ rs
    · obtain ⟨j, hj⟩ := List.mem_iff_getElem?.1 h
      obtain ⟨x, _, hx⟩ := hI j s hj
      exact ⟨x, fun _ => hx⟩
    · exact ⟨nilS, fun h2 => absurd h2 h⟩
  exact ⟨fun s => (key s).choose, fun s hs => (key s).choose_spec hs⟩
theorem Is.fin {w : World} {s : Sp} {x : S38} (h : Is w s x) : ∃ B, ∀ B', B ≤ B' → Fin1 x B' := by
  obtain ⟨A8, c8, A9, c9, A10, c10, _, _, g8, _, g9, _, g10⟩ := k38_open h
  exact ⟨x.f8.length + x.f9.length + x.f10.length + 4, fun B' hB => ⟨g8.2.1, g9.2.1, g10.2.1, by omega⟩⟩
theorem fin_rows {w : World} (f : Sp → S38) : ∀ (rs : List Sp), (∀ s ∈ rs, Is w s (f s)) → ∃ B, ∀ s ∈ rs, Fin1 (f s) B
  | [], _ => ⟨0, fun s h => by cases h⟩
  | a :: rs, h => by
    obtain ⟨B, hB⟩ := fin_rows f rs (fun s hs => h s (List.mem_cons_of_mem _ hs))
    obtain ⟨B2, hB2⟩ := (h a List.mem_cons_self).fin
    refine ⟨B + B2, fun s hs => ?_⟩
    rcases List.mem_cons.1 hs with rfl | hs
    · exact hB2 _ (by omega)
    · obtain ⟨h1, h2, h3, h4⟩ := hB s hs
      exact ⟨h1, h2, h3, by omega⟩
theorem spans_all {w : World} {f : Sp → S38} {rs : List Sp} (hl : rs.length ≤ 1000000) (h : ∀ s ∈ rs, Is w s (f s)) : ∃ K, cambiumref16_Spans.f K (rs.map f) (rs.map f) = some true := by
  obtain ⟨B, hB⟩ := fin_rows f rs h
  refine ⟨_, spans_refl (rs.map f) (by rw [List.length_map]; exact hl) B fun i hi => ?_⟩
  rw [List.length_map] at hi
  have e : rd_T38 (rs.map f) (i : Int) = f (rs[i]'hi) := by
    show (rs.map f).getD (i : Int).toNat _ = _
    rw [Int.toNat_natCast, List.getD_eq_getElem?_getD, List.getElem?_map, List.getElem?_eq_getElem hi]
    rfl
  rw [e]
  exact hB _ (List.getElem_mem hi)
def toL (f : Sp → S38) (x : Ln) : S40 := ⟨f x.sp, x.d, x.o⟩
theorem lines_all {w : World} {f : Sp → S38} {rs : List Ln} (hl : rs.length ≤ 1000000) (h : ∀ x ∈ rs, Is w x.sp (f x.sp)) : ∃ K, cambiumlaw26_Lines.f K (rs.map (toL f)) (rs.map (toL f)) = some true := by
  obtain ⟨B, hB⟩ := fin_rows f (rs.map (·.sp)) (fun s hs => by obtain ⟨x, hx, rfl⟩ := List.mem_map.1 hs; exact h x hx)
  refine ⟨_, lines_refl (rs.map (toL f)) (by rw [List.length_map]; exact hl) B fun i hi => ?_⟩
  rw [List.length_map] at hi
  have e : rd_T40 (rs.map (toL f)) (i : Int) = toL f (rs[i]'hi) := by
    show (rs.map (toL f)).getD (i : Int).toNat _ = _
    rw [Int.toNat_natCast, List.getD_eq_getElem?_getD, List.getElem?_map, List.getElem?_eq_getElem hi]
    rfl
  rw [e]
  exact hB _ (List.mem_map.2 ⟨_, List.getElem_mem hi, rfl⟩)
/-- A row of lines, in the law's own kinds. -/
theorem kindL_of {w : World} {A : Option Addr} {n : Nat} {rs : List Ln} (f : Sp → S38) (h : Kd.C kL w A n rs) (hf : ∀ x ∈ rs, Is w x.sp (f x.sp)) : Kd.C k40 w A n (rs.map (toL f)) := by
  obtain ⟨hn, hb, hc⟩ := h
  refine ⟨by rw [List.length_map]; exact hn, hb, fun hp => ?_⟩
  obtain ⟨ad, rfl, hcc⟩ := hc hp
  refine ⟨ad, rfl, fun j p hj => ?_⟩
  rw [List.getElem?_map] at hj
  obtain ⟨x, hx, rfl⟩ := Option.map_eq_some_iff.1 hj
  obtain ⟨c, hcl, hK, hce⟩ := hcc j x hx
  have hK : c = encL x := hK
  subst hK
  exact ⟨encL x, rfl, ⟨encS x.sp, [.int .i64 x.d, .bool x.o], rfl, hf x (List.mem_of_getElem? hx), ⟨[.int .i64 x.d], [.bool x.o], rfl, rfl, rfl⟩⟩, hce⟩
end Go.Proofs.Ytoigebnhnkdbbaa.Tr
