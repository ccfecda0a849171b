/- The table of the reference's Match: which beginnings of a pattern stand for which beginnings of a text. -/
import Derived.Test.YtphimckceegiiaaDoorPTxtx9
import Derived.Test.YtphimckceegiiaaDoorGlob
import Derived.Test.YtphimckceegiiaaDoorRuns
namespace Go.Proofs.YtphimckceegiiaaDoor.Glob
open Go.RowKit Go.Proofs.YtphimckceegiiaaDoorW.PrintWords Go.Proofs.YtphimckceegiiaaDoorW.PrintLast Go.Proofs.YtphimckceegiiaaDoorW.PrintMore Go.Proofs.YtphimckceegiiaaDoor.Math
open Go.Proofs.YtphimckceegiiaaDoor.PTxt Go.Proofs.YtphimckceegiiaaDoor.Runes Go.Proofs.YtphimckceegiiaaDoor.Text
set_option linter.unusedVariables false
set_option linter.unusedSimpArgs false
theorem gm_append : ∀ (xs ys : List S44) (t : List Int), gm (xs ++ ys) t ↔ ∃ j, j ≤ t.length ∧ gm xs (t.take j) ∧ gm ys (t.drop j) := by
  intro xs ys
  induction xs with
  | nil =>
    intro t
    rw [List.nil_append]
    constructor
    · intro h
      exact ⟨0, Nat.zero_le _, by rw [List.take_zero, gm], h⟩
    · rintro ⟨j, hj, h1, h2⟩
      rw [gm] at h1
      have hl := congrArg List.length h1
      rw [List.length_take, List.length_nil] at hl
      have hj0 : j = 0 := by omega
      subst hj0
      exact h2
  | cons x xs ih =>
    intro t
    rw [List.cons_append]
    cases hs : x.f2 with
    | true =>
      rw [gm_many hs]
      constructor
      · rintro ⟨a, ha, hg⟩
        obtain ⟨j, hj, h1, h2⟩ := (ih _).mp hg
        rw [List.length_drop] at hj
        refine ⟨a + j, by omega, (gm_many hs _ _).mpr ⟨a, by rw [List.length_take]; omega, ?_⟩, ?_⟩
        · rw [List.drop_take, show a + j - a = j by omega]
          exact h1
        · rw [List.drop_drop] at h2
          exact h2
      · rintro ⟨j, hj, h1, h2⟩
        obtain ⟨a, ha, hg⟩ := (gm_many hs _ _).mp h1
        rw [List.length_take] at ha
        refine ⟨a, by omega, (ih _).mpr ⟨j - a, by rw [List.length_drop]; omega, ?_, ?_⟩⟩
        · rw [List.drop_take] at hg
          exact hg
        · rw [List.drop_drop, show a + (j - a) = j by omega]
          exact h2
    | false =>
      rw [gm_lit hs]
      constructor
      · rintro ⟨c, t', rfl, hl, hg⟩
        obtain ⟨j, hj, h1, h2⟩ := (ih _).mp hg
        refine ⟨j + 1, by rw [List.length_cons]; omega, (gm_lit hs _ _).mpr ⟨c, t'.take j, by rw [List.take_succ_cons], hl, h1⟩, ?_⟩
        rw [List.drop_succ_cons]
        exact h2
      · rintro ⟨j, hj, h1, h2⟩
        obtain ⟨c, u, e, hl, hg⟩ := (gm_lit hs _ _).mp h1
        cases t with
        | nil => rw [List.take_nil] at e; cases e
        | cons c' t' =>
          cases j with
          | zero => rw [List.take_zero] at e; cases e
          | succ j =>
            rw [List.take_succ_cons, List.cons.injEq] at e
            obtain ⟨rfl, rfl⟩ := e
            rw [List.drop_succ_cons] at h2
            rw [List.length_cons] at hj
            exact ⟨_, _, rfl, hl, (ih _).mpr ⟨j, by omega, hg, h2⟩⟩
/-- So many of the first signs stand for so many of the first runes. -/
def Q (p : List S44) (t : List Int) (i k : Nat) : Prop := gm (p.take i) (t.take k)
theorem take_g {p : List S44} {i : Nat} (h : i < p.length) : p.take (i + 1) = p.take i ++ [p.getD i z44] := by
  rw [List.take_succ_eq_append_getElem h, List.getD_eq_getElem?_getD, List.getElem?_eq_getElem h]
  rfl
theorem q_zero (p : List S44) (t : List Int) (k : Nat) (hk : k ≤ t.length) : Q p t 0 k ↔ k = 0 := by
  unfold Q
  rw [List.take_zero, gm]
  constructor
  · intro h
    have hl := congrArg List.length h
    rw [List.length_take, List.length_nil] at hl
    omega
  · rintro rfl
    rw [List.take_zero]
theorem q_take (t : List Int) (j k : Nat) (h : j ≤ k) : (t.take k).take j = t.take j := by
  rw [List.take_take, Nat.min_eq_left h]
theorem q_many {p : List S44} {t : List Int} {i k : Nat} (hi : i < p.length) (hk : k ≤ t.length) (hs : (p.getD i z44).f2 = true) : Q p t (i + 1) k ↔ ∃ j, j ≤ k ∧ Q p t i j := by
  unfold Q
  rw [take_g hi, gm_append]
  constructor
  · rintro ⟨j, hj, h1, _⟩
    rw [List.length_take] at hj
    rw [q_take t j k (by omega)] at h1
    exact ⟨j, by omega, h1⟩
  · rintro ⟨j, hj, h1⟩
    refine ⟨j, by rw [List.length_take]; omega, by rw [q_take t j k hj]; exact h1, (gm_many hs _ _).mpr ⟨_, Nat.le_refl _, ?_⟩⟩
    rw [List.drop_length, gm]
theorem q_many_step {p : List S44} {t : List Int} {i k : Nat} (hi : i < p.length) (hk : k + 1 ≤ t.length) (hs : (p.getD i z44).f2 = true) : Q p t (i + 1) (k + 1) ↔ Q p t i (k + 1) ∨ Q p t (i + 1) k := by
  rw [q_many hi hk hs, q_many hi (by omega) hs]
  constructor
  · rintro ⟨j, hj, h⟩
    by_cases e : j = k + 1
    · subst e; exact .inl h
    · exact .inr ⟨j, by omega, h⟩
  · rintro (h | ⟨j, hj, h⟩)
    · exact ⟨k + 1, Nat.le_refl _, h⟩
    · exact ⟨j, by omega, h⟩
theorem q_many_zero {p : List S44} {t : List Int} {i : Nat} (hi : i < p.length) (hs : (p.getD i z44).f2 = true) : Q p t (i + 1) 0 ↔ Q p t i 0 := by
  rw [q_many hi (Nat.zero_le _) hs]
  constructor
  · rintro ⟨j, hj, h⟩
    have : j = 0 := by omega
    subst this
    exact h
  · intro h; exact ⟨0, Nat.le_refl _, h⟩
theorem q_lit {p : List S44} {t : List Int} {i k : Nat} (hi : i < p.length) (hk : k + 1 ≤ t.length) (hs : (p.getD i z44).f2 = false) : Q p t (i + 1) (k + 1) ↔ Q p t i k ∧ lit (p.getD i z44) (t.getD k 0) := by
  have hd : (t.take (k + 1)).drop k = [t.getD k 0] := by
    rw [List.drop_take, show k + 1 - k = 1 by omega, drop_t (by omega : k < t.length)]
    rfl
  unfold Q
  rw [take_g hi, gm_append]
  constructor
  · rintro ⟨j, hj, h1, h2⟩
    rw [List.length_take] at hj
    obtain ⟨c, t', e, hl, h3⟩ := (gm_lit hs _ _).mp h2
    rw [gm] at h3
    subst h3
    have hle := congrArg List.length e
    rw [List.length_drop, List.length_take, List.length_singleton] at hle
    have hjk : j = k := by omega
    subst hjk
    rw [hd, List.cons.injEq] at e
    rw [q_take t j (j + 1) (by omega)] at h1
    exact ⟨h1, e.1 ▸ hl⟩
  · rintro ⟨h1, hl⟩
    refine ⟨k, by rw [List.length_take]; omega, by rw [q_take t k (k + 1) (by omega)]; exact h1, (gm_lit hs _ _).mpr ⟨_, [], hd, hl, by rw [gm]⟩⟩
theorem q_lit_zero {p : List S44} {t : List Int} {i : Nat} (hi : i < p.length) (hs : (p.getD i z44).f2 = false) : ¬ Q p t (i + 1) 0 := by
  unfold Q
  rw [take_g hi, gm_append]
  rintro ⟨j, hj, h1, h2⟩
  obtain ⟨c, t', e, hl, h3⟩ := (gm_lit hs _ _).mp h2
  have hle := congrArg List.length e
  rw [List.length_drop, List.length_take, List.length_cons] at hle
  omega
/-- A sign as the reference has it: a number. -/
def conv (x : S44) : Int := if x.f2 = true then -1 else if x.f1 = true then -2 else x.f0
theorem rd_conv {p : List S44} {i : Nat} (h : i < p.length) : rd (p.map conv) (i : Int) = conv (p.getD i z44) := by
  unfold rd
  rw [Int.toNat_natCast, List.getD_eq_getElem?_getD, List.getElem?_map, List.getElem?_eq_getElem h, List.getD_eq_getElem?_getD, List.getElem?_eq_getElem h]
  rfl
def Row (p : List S44) (t : List Int) (i : Nat) (l : List Bool) (m : Nat) : Prop := l.length = t.length + 1 ∧ ∀ k, k < m → (l.getD k false = true ↔ Q p t i k)
theorem row_set {p : List S44} {t : List Int} {i m : Nat} {l : List Bool} {b : Bool} (h : Row p t i l m) (hm : m ≤ t.length) (hb : b = true ↔ Q p t i m) : Row p t i (l.set m b) (m + 1) := by
  refine ⟨by rw [List.length_set]; exact h.1, fun k hk => ?_⟩
  have hl := h.1
  by_cases e : k = m
  · subst e
    rw [List.getD_eq_getElem?_getD, List.getElem?_set_self (by omega)]
    exact hb
  · rw [List.getD_eq_getElem?_getD, List.getElem?_set_ne (fun h => e h.symm), ← List.getD_eq_getElem?_getD]
    exact h.2 k (by omega)
theorem rdo_b (l : List Bool) (k : Nat) : rdOf false l (k : Int) = l.getD k false := rfl
theorem wpred (k : Nat) (h : k + 1 ≤ 1000000) : wrap64 (((k + 1 : Nat) : Int) - 1) = (k : Int) := by unfold wrap64; omega
theorem table_l1 (p : List S44) (t : List Int) (hp : p.length ≤ 1000000) (ht : t.length ≤ 100000) (h0 : ∀ x ∈ p, 0 ≤ x.f0) (h0t : ∀ c ∈ t, 0 ≤ c) (i : Nat) (hi : i < p.length) (x8 : List Bool) (h8 : Row p t i x8 (t.length + 1)) (d : Nat) :
    ∀ (f k : Nat) (x10 : List Bool), k ≤ t.length + 1 → t.length + 1 - k ≤ d → Row p t (i + 1) x10 k → d < f →
      ∃ f2 x, f ≤ f2 + d + 1 ∧ cambiumref02_Match.l1 f (p.map conv) t x8 (i : Int) x10 (k : Int) = cambiumref02_Match.l0 f2 (p.map conv) t x ((i + 1 : Nat) : Int) ∧ Row p t (i + 1) x (t.length + 1) := by
  have hend : ∀ (f k : Nat) (x10 : List Bool) (d : Nat), k = t.length + 1 → Row p t (i + 1) x10 k →
      ∃ f2 x, f + 1 ≤ f2 + d + 1 ∧ cambiumref02_Match.l1 (f + 1) (p.map conv) t x8 (i : Int) x10 (k : Int) = cambiumref02_Match.l0 f2 (p.map conv) t x ((i + 1 : Nat) : Int) ∧ Row p t (i + 1) x (t.length + 1) := by
    intro f k x10 d hk hr
    refine ⟨f, x10, by omega, ?_, hk ▸ hr⟩
    rw [cambiumref02_Match.l1, if_neg (by omega), wsucc i (by omega)]
  have hlen8 := h8.1
  have hmap : (p.map conv).length = p.length := List.length_map ..
  have hx0 : 0 ≤ (p.getD i z44).f0 := by
    rw [List.getD_eq_getElem?_getD, List.getElem?_eq_getElem hi]
    exact h0 _ (List.getElem_mem hi)
  induction d with
  | zero =>
    intro f k x10 hk hd hr hf
    obtain ⟨f, rfl⟩ : ∃ j, f = j + 1 := ⟨f - 1, by omega⟩
    exact hend f k x10 0 (by omega) hr
  | succ d ih =>
    intro f k x10 hk hd hr hf
    obtain ⟨f, rfl⟩ : ∃ j, f = j + 1 := ⟨f - 1, by omega⟩
    by_cases hlt : k ≤ t.length
    · have hlen10 := hr.1
      -- the step behind each arm
      have go : ∀ b : Bool, (b = true ↔ Q p t (i + 1) k) → ∃ f2 x, f + 1 ≤ f2 + (d + 1) + 1 ∧ cambiumref02_Match.l1 f (p.map conv) t x8 (i : Int) (x10.set k b) ((k + 1 : Nat) : Int) = cambiumref02_Match.l0 f2 (p.map conv) t x ((i + 1 : Nat) : Int) ∧ Row p t (i + 1) x (t.length + 1) := by
        intro b hb
        obtain ⟨f2, x, e1, e2, e3⟩ := ih f (k + 1) (x10.set k b) (by omega) (by omega) (row_set hr hlt hb) (by omega)
        exact ⟨f2, x, by omega, e2, e3⟩
      rw [cambiumref02_Match.l1, if_pos (by omega), if_pos (by omega), if_pos (by omega), rd_conv hi]
      cases hs : (p.getD i z44).f2 with
      | true =>
        have hc : conv (p.getD i z44) = -1 := by unfold conv; rw [if_pos hs]
        rw [hc, if_pos rfl, if_pos (by omega), if_pos (by omega), rdo_b, wsucc k (by omega)]
        cases h8k : x8.getD k false with
        | true =>
          rw [if_pos rfl, if_pos (by omega), Int.toNat_natCast]
          have hq := (h8.2 k (by omega)).mp h8k
          exact go true ⟨fun _ => (q_many hi hlt hs).mpr ⟨k, Nat.le_refl _, hq⟩, fun _ => rfl⟩
        | false =>
          rw [if_neg Bool.false_ne_true]
          have hq : ¬ Q p t i k := fun h => by have := (h8.2 k (by omega)).mpr h; rw [h8k] at this; cases this
          cases k with
          | zero =>
            rw [if_neg (by omega), if_pos (by omega), Int.toNat_natCast]
            exact go false ⟨fun h => (by cases h), fun h => absurd ((q_many_zero hi hs).mp h) hq⟩
          | succ k =>
            rw [if_pos (by omega), wpred k (by omega), if_pos (by omega), if_pos (by omega), if_pos (by omega), rdo_b, Int.toNat_natCast]
            refine go _ ?_
            rw [hr.2 k (by omega), q_many_step hi hlt hs]
            exact ⟨.inr, fun h => h.elim (fun h => absurd h hq) id⟩
      | false =>
        have hc : conv (p.getD i z44) ≠ -1 := by unfold conv; rw [if_neg (by rw [hs]; exact Bool.false_ne_true)]; split <;> omega
        rw [if_neg hc, wsucc k (by omega)]
        cases k with
        | zero =>
          rw [if_neg (by omega), if_pos (by omega), if_pos (by omega), Int.toNat_natCast]
          exact go false ⟨fun h => (by cases h), fun h => absurd h (q_lit_zero hi hs)⟩
        | succ k =>
          rw [if_pos (by omega), wpred k (by omega), if_pos (by omega), if_pos (by omega), rdo_b]
          have hqs := q_lit hi hlt hs
          have h8k := h8.2 k (by omega)
          have hck : 0 ≤ t.getD k 0 := by
            rw [List.getD_eq_getElem?_getD, List.getElem?_eq_getElem (by omega : k < t.length)]
            exact h0t _ (List.getElem_mem _)
          cases h8v : x8.getD k false with
          | true =>
            rw [if_pos rfl]
            have hq := h8k.mp h8v
            by_cases hany : (p.getD i z44).f1 = true
            · have hc2 : conv (p.getD i z44) = -2 := by unfold conv; rw [if_neg (by rw [hs]; exact Bool.false_ne_true), if_pos hany]
              rw [hc2, if_pos rfl, if_pos (by omega), if_pos (by omega), Int.toNat_natCast]
              exact go true ⟨fun _ => hqs.mpr ⟨hq, .inl hany⟩, fun _ => rfl⟩
            · have hc2 : conv (p.getD i z44) = (p.getD i z44).f0 := by unfold conv; rw [if_neg (by rw [hs]; exact Bool.false_ne_true), if_neg hany]
              rw [hc2, if_neg (by omega), if_pos (by omega), if_pos (by omega), if_pos (by omega), rd_nat, Int.toNat_natCast]
              refine go _ ?_
              rw [beq_iff_eq, hqs]
              exact ⟨fun h => ⟨hq, .inr h⟩, fun h => h.2.elim (fun h => absurd h hany) id⟩
          | false =>
            rw [if_neg Bool.false_ne_true, if_pos (by omega), if_pos (by omega), Int.toNat_natCast]
            exact go false ⟨fun h => (by cases h), fun h => by have := h8k.mpr (hqs.mp h).1; rw [h8v] at this; cases this⟩
    · exact hend f k x10 (d + 1) (by omega) hr
theorem row_new (p : List S44) (t : List Int) (i : Nat) : Row p t i (List.replicate (t.length + 1) false) 0 := ⟨List.length_replicate .., fun k hk => by omega⟩
theorem mul_step (a b : Nat) (h : a < b) (c : Nat) : (b - a) * c = (b - (a + 1)) * c + c := by
  rw [show b - a = b - (a + 1) + 1 by omega, Nat.succ_mul]
theorem table_l0 (p : List S44) (t : List Int) (hp : p.length ≤ 1000000) (ht : t.length ≤ 100000) (h0 : ∀ x ∈ p, 0 ≤ x.f0) (h0t : ∀ c ∈ t, 0 ≤ c) (d : Nat) :
    ∀ (f i : Nat) (x8 : List Bool), i ≤ p.length → p.length - i ≤ d → Row p t i x8 (t.length + 1) → (p.length - i) * (t.length + 4) < f →
      ∃ r, cambiumref02_Match.l0 f (p.map conv) t x8 (i : Int) = some r ∧ (r = true ↔ gm p t) := by
  have hmap : (p.map conv).length = p.length := List.length_map ..
  have hend : ∀ (f i : Nat) (x8 : List Bool), i = p.length → Row p t i x8 (t.length + 1) → ∃ r, cambiumref02_Match.l0 (f + 1) (p.map conv) t x8 (i : Int) = some r ∧ (r = true ↔ gm p t) := by
    intro f i x8 hi hr
    have hl := hr.1
    refine ⟨x8.getD t.length false, ?_, ?_⟩
    · rw [cambiumref02_Match.l0, if_neg (by omega), if_pos (by omega), if_pos (by omega)]
      rfl
    · rw [hr.2 t.length (by omega), hi]
      unfold Q
      rw [List.take_length, List.take_length]
  induction d with
  | zero =>
    intro f i x8 hi hd hr hf
    obtain ⟨f, rfl⟩ : ∃ j, f = j + 1 := ⟨f - 1, by omega⟩
    exact hend f i x8 (by omega) hr
  | succ d ih =>
    intro f i x8 hi hd hr hf
    obtain ⟨f, rfl⟩ : ∃ j, f = j + 1 := ⟨f - 1, by omega⟩
    by_cases hlt : i < p.length
    · have hms := mul_step i p.length hlt (t.length + 4)
      have hfl : t.length + 2 < f := by
        generalize (p.length - (i + 1)) * (t.length + 4) = Y at *
        omega
      rw [cambiumref02_Match.l0, if_pos (by omega), wsucc t.length (by omega), if_pos (by omega), Int.toNat_natCast, if_pos (by omega)]
      obtain ⟨f2, x, e1, e2, e3⟩ := table_l1 p t hp ht h0 h0t i hlt x8 hr (t.length + 1) f 0 _ (by omega) (by omega) (row_new p t (i + 1)) (by omega)
      have e2' := e2
      rw [show ((0 : Nat) : Int) = 0 from rfl] at e2'
      rw [e2']
      refine ih f2 (i + 1) x (by omega) (by omega) e3 ?_
      generalize (p.length - (i + 1)) * (t.length + 4) = Y at *
      omega
    · exact hend f i x8 (by omega) hr
/-- The reference's signs are the program's. -/
theorem signs_l0 (l : List Int) (hl : l.length ≤ 1000000) (d : Nat) : ∀ (f i : Nat) (acc : List Int), l.length - i ≤ d → acc.length ≤ i → d < f → cambiumref02_signs.l0 f l acc (i : Int) = some (acc ++ (signsL false (l.drop i)).map conv) := by
  have hend : ∀ (f i : Nat) (acc : List Int), ¬ i < l.length → cambiumref02_signs.l0 (f + 1) l acc (i : Int) = some (acc ++ (signsL false (l.drop i)).map conv) := by
    intro f i acc h
    rw [cambiumref02_signs.l0, if_neg (by omega), List.drop_eq_nil_of_le (by omega), signsL, List.map_nil, List.append_nil]
  induction d with
  | zero =>
    intro f i acc h ha hf
    obtain ⟨f, rfl⟩ : ∃ j, f = j + 1 := ⟨f - 1, by omega⟩
    exact hend f i acc (by omega)
  | succ d ih =>
    intro f i acc h ha hf
    obtain ⟨f, rfl⟩ : ∃ j, f = j + 1 := ⟨f - 1, by omega⟩
    by_cases hlt : i < l.length
    · have step : ∀ v : Int, ∀ j : Nat, i < j → cambiumref02_signs.l0 f l (acc ++ [v]) (j : Int) = some (acc ++ (v :: (signsL false (l.drop j)).map conv)) := by
        intro v j hj
        rw [ih f j (acc ++ [v]) (by omega) (by rw [List.length_append, List.length_singleton]; omega) (by omega), List.append_assoc]
        rfl
      rw [cambiumref02_signs.l0, if_pos (by omega), if_pos (by omega), rd_nat, wsucc i (by omega), drop_t hlt]
      by_cases h92 : l.getD i 0 = 92
      · rw [if_pos h92, signsL, if_pos h92]
        by_cases h2 : i + 1 < l.length
        · rw [if_pos (by omega), if_pos (by omega), if_pos (by omega), wsucc (i + 1) (by omega), rd_nat, step _ (i + 2) (by omega), drop_t h2, signsL]
          rfl
        · rw [if_neg (by omega), if_pos (by omega), h92, step _ (i + 1) (by omega), List.drop_eq_nil_of_le (by omega)]
          rfl
      · rw [if_neg h92, signsL, if_neg h92]
        by_cases h42 : l.getD i 0 = 42
        · rw [if_pos h42, if_pos h42, if_pos (by omega), step _ (i + 1) (by omega)]
          rfl
        · rw [if_neg h42, if_neg h42]
          by_cases h63 : l.getD i 0 = 63
          · rw [if_pos h63, if_pos h63, if_pos (by omega), step _ (i + 1) (by omega)]
            rfl
          · rw [if_neg h63, if_neg h63, if_pos (by omega), step _ (i + 1) (by omega)]
            rfl
    · exact hend f i acc hlt
theorem signsL_pos : ∀ (l : List Int) (b : Bool), (∀ c ∈ l, 0 ≤ c) → ∀ x ∈ signsL b l, 0 ≤ x.f0 := by
  intro l
  induction l with
  | nil =>
    intro b _ x hx
    cases b with
    | false => rw [signsL] at hx; cases hx
    | true => rw [signsL, List.mem_singleton] at hx; subst hx; decide
  | cons r t ih =>
    intro b hl x hx
    have hr := hl r (List.mem_cons_self ..)
    have ht : ∀ c ∈ t, 0 ≤ c := fun c hc => hl c (List.mem_cons_of_mem _ hc)
    cases b with
    | true =>
      rw [signsL, List.mem_cons] at hx
      rcases hx with rfl | hx
      · exact hr
      · exact ih _ ht x hx
    | false =>
      rw [signsL] at hx
      split at hx
      · exact ih _ ht x hx
      · split at hx
        · rw [List.mem_cons] at hx
          rcases hx with rfl | hx
          · exact Int.le_refl 0
          · exact ih _ ht x hx
        · split at hx
          · rw [List.mem_cons] at hx
            rcases hx with rfl | hx
            · exact Int.le_refl 0
            · exact ih _ ht x hx
          · rw [List.mem_cons] at hx
            rcases hx with rfl | hx
            · exact hr
            · exact ih _ ht x hx
theorem signsL_len : ∀ (l : List Int) (b : Bool), (signsL b l).length ≤ l.length + 1 := by
  intro l
  induction l with
  | nil => intro b; cases b <;> rw [signsL] <;> simp
  | cons r t ih =>
    intro b
    cases b with
    | true => rw [signsL, List.length_cons, List.length_cons]; have := ih false; omega
    | false =>
      have hf := ih false
      have ht := ih true
      rw [signsL]
      split
      · rw [List.length_cons]; omega
      · split
        · rw [List.length_cons, List.length_cons]; omega
        · split <;> (rw [List.length_cons, List.length_cons]; omega)
theorem runesI_pos (s : ByteArray) : ∀ c ∈ runesI s, 0 ≤ c := by
  intro c hc
  unfold runesI at hc
  obtain ⟨i, _, rfl⟩ := List.mem_map.mp hc
  omega
/-- What the reference's Match tells. -/
theorem refmatch_is (f : Nat) (a0 a1 : ByteArray) (h0 : a0.size ≤ 700) (h1 : a1.size ≤ 700) (hr0 : (runesI a0).length ≤ 700) (ht : (runesI a1).length ≤ 700) (hf : 3000000 ≤ f) :
    ∃ r, cambiumref02_Match.f f a0 a1 = some r ∧ (r = true ↔ gm (signsL false (runesI a0)) (runesI a1)) := by
  have e0 : cambiumref02_signs.f f a0 = some ((signsL false (runesI a0)).map conv) := by
    unfold cambiumref02_signs.f
    rw [runes_eq f a0 (by omega) (by omega), Option.bind_some]
    have := signs_l0 (runesI a0) (by omega) (runesI a0).length f 0 [] (by omega) (Nat.le_refl _) (by omega)
    rw [List.nil_append, List.drop_zero] at this
    exact this
  have hpl := signsL_len (runesI a0) false
  unfold cambiumref02_Match.f
  rw [e0, Option.bind_some, runes_eq f a1 (by omega) (by omega), Option.bind_some]
  have hw : wrap64 (((runesI a1).length : Int) + 1) = (((runesI a1).length + 1 : Nat) : Int) := wsucc _ (by omega)
  simp only [hw]
  rw [if_pos (by omega), Int.toNat_natCast, if_pos (by omega), Option.bind_some, List.length_replicate, if_pos (by omega)]
  have hm : (signsL false (runesI a0)).length * ((runesI a1).length + 4) ≤ 701 * 704 := Nat.mul_le_mul (by omega) (by omega)
  have hrow : Row (signsL false (runesI a0)) (runesI a1) 0 ((List.replicate ((runesI a1).length + 1) false).set 0 true) ((runesI a1).length + 1) := by
    refine ⟨by rw [List.length_set, List.length_replicate], fun k hk => ?_⟩
    rw [q_zero _ _ _ (by omega)]
    cases k with
    | zero =>
      rw [List.getD_eq_getElem?_getD, List.getElem?_set_self (by rw [List.length_replicate]; omega)]
      exact ⟨fun _ => rfl, fun _ => rfl⟩
    | succ k =>
      rw [List.getD_eq_getElem?_getD, List.getElem?_set_ne (by omega), List.getElem?_replicate, if_pos (by omega)]
      exact ⟨fun h => (by cases h), fun h => by omega⟩
  exact table_l0 _ _ (by omega) (by omega) (signsL_pos _ _ (runesI_pos a0)) (runesI_pos a1) _ f 0 _ (by omega) (Nat.le_refl _) hrow (by rw [Nat.sub_zero]; omega)
end Go.Proofs.YtphimckceegiiaaDoor.Glob
