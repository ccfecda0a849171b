/- Patterns: what it is that a row of signs stands for a row of runes, in plain words; the greedy search and the table both find it. -/
import Derived.Test.YtphimckceegiiaaDoorPTxtx1
import Derived.Test.YtphimckceegiiaaDoorTextSigns
namespace Go.Proofs.YtphimckceegiiaaDoor.Glob
open Go.RowKit Go.Proofs.YtphimckceegiiaaDoorW.PrintWords Go.Proofs.YtphimckceegiiaaDoorW.PrintLast Go.Proofs.YtphimckceegiiaaDoorW.PrintMore Go.Proofs.YtphimckceegiiaaDoor.Math
open Go.Proofs.YtphimckceegiiaaDoor.PTxt Go.Proofs.YtphimckceegiiaaDoor.Runes Go.Proofs.YtphimckceegiiaaDoor.Text
set_option linter.unusedVariables false
set_option linter.unusedSimpArgs false
def lit (x : S44) (c : Int) : Prop := x.f1 = true ∨ x.f0 = c
/-- A row of signs stands for a row of runes. -/
def gm : List S44 → List Int → Prop
  | [], t => t = []
  | x :: ps, t => if x.f2 = true then ∃ j, j ≤ t.length ∧ gm ps (t.drop j) else ∃ c t', t = c :: t' ∧ lit x c ∧ gm ps t'
theorem gm_many {x : S44} (h : x.f2 = true) (ps : List S44) (t : List Int) : gm (x :: ps) t ↔ ∃ j, j ≤ t.length ∧ gm ps (t.drop j) := by
  rw [gm, if_pos h]
theorem gm_lit {x : S44} (h : x.f2 = false) (ps : List S44) (t : List Int) : gm (x :: ps) t ↔ ∃ c t', t = c :: t' ∧ lit x c ∧ gm ps t' := by
  rw [gm, if_neg (by rw [h]; exact Bool.false_ne_true)]
theorem drop_g {p : List S44} {i : Nat} (h : i < p.length) : p.drop i = p.getD i z44 :: p.drop (i + 1) := by
  rw [List.drop_eq_getElem_cons h, List.getD_eq_getElem?_getD, List.getElem?_eq_getElem h]
  rfl
theorem drop_t {t : List Int} {k : Nat} (h : k < t.length) : t.drop k = t.getD k 0 :: t.drop (k + 1) := by
  rw [List.drop_eq_getElem_cons h, List.getD_eq_getElem?_getD, List.getElem?_eq_getElem h]
  rfl
/-- A row of signs none of which is a star takes one rune each. -/
theorem seg (p : List S44) (a : Nat) : ∀ (m : Nat), a + m ≤ p.length → (∀ x, a ≤ x → x < a + m → (p.getD x z44).f2 = false) → ∀ u, gm (p.drop a) u → m ≤ u.length ∧ gm (p.drop (a + m)) (u.drop m) := by
  intro m
  induction m with
  | zero => intro _ _ u h; exact ⟨Nat.zero_le _, h⟩
  | succ m ih =>
    intro h hn u hu
    obtain ⟨h1, h2⟩ := ih (by omega) (fun x hx hx2 => hn x hx (by omega)) u hu
    rw [drop_g (by omega : a + m < p.length), gm_lit (hn (a + m) (by omega) (by omega))] at h2
    obtain ⟨c, t', e, _, h3⟩ := h2
    have hl := congrArg List.length e
    rw [List.length_drop, List.length_cons] at hl
    have hlt : m < u.length := by omega
    rw [drop_t hlt, List.cons.injEq] at e
    refine ⟨by omega, ?_⟩
    rw [e.2]
    exact h3
def Inv (p : List S44) (t : List Int) (G : Prop) (i k a b : Nat) : Prop :=
  i ≤ p.length ∧ k ≤ t.length ∧ a ≤ i ∧ k = b + (i - a) ∧ (∀ x, a ≤ x → x < i → (p.getD x z44).f2 = false) ∧
  (G ↔ gm (p.drop i) (t.drop k) ∨ (1 ≤ a ∧ ∃ j, b < j ∧ j ≤ t.length ∧ gm (p.drop a) (t.drop j)))
theorem inv_star {p : List S44} {t : List Int} {G : Prop} {i k a b : Nat} (h : Inv p t G i k a b) (hi : i < p.length) (hs : (p.getD i z44).f2 = true) : Inv p t G (i + 1) k (i + 1) k := by
  obtain ⟨h1, h2, h3, h4, h5, h6⟩ := h
  have ea : a + (i - a) = i := Nat.add_sub_cancel' h3
  refine ⟨by omega, h2, Nat.le_refl _, by omega, fun x _ _ => by omega, ?_⟩
  have key : gm (p.drop i) (t.drop k) ↔ ∃ j, k ≤ j ∧ j ≤ t.length ∧ gm (p.drop (i + 1)) (t.drop j) := by
    rw [drop_g hi, gm_many hs]
    constructor
    · rintro ⟨j, hj, hg⟩
      rw [List.length_drop] at hj
      rw [List.drop_drop] at hg
      exact ⟨k + j, by omega, by omega, hg⟩
    · rintro ⟨j, hj, hj2, hg⟩
      refine ⟨j - k, by rw [List.length_drop]; omega, ?_⟩
      rw [List.drop_drop, show k + (j - k) = j by omega]
      exact hg
  have new : (gm (p.drop (i + 1)) (t.drop k) ∨ (1 ≤ i + 1 ∧ ∃ j, k < j ∧ j ≤ t.length ∧ gm (p.drop (i + 1)) (t.drop j))) ↔ ∃ j, k ≤ j ∧ j ≤ t.length ∧ gm (p.drop (i + 1)) (t.drop j) := by
    constructor
    · rintro (hg | ⟨_, j, hj, hj2, hg⟩)
      · exact ⟨k, Nat.le_refl _, h2, hg⟩
      · exact ⟨j, by omega, hj2, hg⟩
    · rintro ⟨j, hj, hj2, hg⟩
      by_cases e : j = k
      · subst e; exact .inl hg
      · exact .inr ⟨by omega, j, by omega, hj2, hg⟩
  rw [h6, new]
  constructor
  · rintro (hg | ⟨ha, j, hj, hj2, hg⟩)
    · exact key.mp hg
    · obtain ⟨s1, s2⟩ := seg p a (i - a) (ea.symm ▸ h1) (fun x hx hx2 => h5 x hx (ea ▸ hx2)) _ hg
      rw [List.length_drop] at s1
      rw [ea, List.drop_drop, drop_g hi, gm_many hs] at s2
      obtain ⟨j2, hj3, hg2⟩ := s2
      rw [List.length_drop] at hj3
      rw [List.drop_drop] at hg2
      exact ⟨j + (i - a) + j2, by omega, by omega, hg2⟩
  · intro hg
    exact .inl (key.mpr hg)
theorem inv_lit {p : List S44} {t : List Int} {G : Prop} {i k a b : Nat} (h : Inv p t G i k a b) (hi : i < p.length) (hk : k < t.length) (hs : (p.getD i z44).f2 = false) (hl : lit (p.getD i z44) (t.getD k 0)) :
    Inv p t G (i + 1) (k + 1) a b := by
  obtain ⟨h1, h2, h3, h4, h5, h6⟩ := h
  refine ⟨by omega, by omega, by omega, by omega, ?_, ?_⟩
  · intro x hx hx2
    by_cases e : x = i
    · subst e; exact hs
    · exact h5 x hx (by omega)
  · have key : gm (p.drop i) (t.drop k) ↔ gm (p.drop (i + 1)) (t.drop (k + 1)) := by
      rw [drop_g hi, gm_lit hs, drop_t hk]
      constructor
      · rintro ⟨c, t', e, _, hg⟩
        rw [List.cons.injEq] at e
        rw [e.2]; exact hg
      · intro hg
        exact ⟨_, _, rfl, hl, hg⟩
    rw [h6, key]
theorem no_here {p : List S44} {t : List Int} {i k : Nat} (hk : k < t.length) (hn : i = p.length ∨ (i < p.length ∧ (p.getD i z44).f2 = false ∧ ¬ lit (p.getD i z44) (t.getD k 0))) : ¬ gm (p.drop i) (t.drop k) := by
  rcases hn with rfl | ⟨hi, hs, hl⟩
  · rw [List.drop_length, drop_t hk]
    intro h
    rw [gm] at h
    cases h
  · rw [drop_g hi, gm_lit hs, drop_t hk]
    rintro ⟨c, t', e, hl2, _⟩
    rw [List.cons.injEq] at e
    exact hl (e.1 ▸ hl2)
theorem inv_back {p : List S44} {t : List Int} {G : Prop} {i k a b : Nat} (h : Inv p t G i k a b) (hk : k < t.length) (ha : 1 ≤ a)
    (hn : i = p.length ∨ (i < p.length ∧ (p.getD i z44).f2 = false ∧ ¬ lit (p.getD i z44) (t.getD k 0))) : Inv p t G a (b + 1) a (b + 1) := by
  obtain ⟨h1, h2, h3, h4, h5, h6⟩ := h
  refine ⟨by omega, by omega, Nat.le_refl _, by omega, fun x _ _ => by omega, ?_⟩
  rw [h6]
  constructor
  · rintro (hg | ⟨_, j, hj, hj2, hg⟩)
    · exact absurd hg (no_here hk hn)
    · by_cases e : j = b + 1
      · subst e; exact .inl hg
      · exact .inr ⟨ha, j, by omega, hj2, hg⟩
  · rintro (hg | ⟨_, j, hj, hj2, hg⟩)
    · exact .inr ⟨ha, b + 1, by omega, by omega, hg⟩
    · exact .inr ⟨ha, j, by omega, hj2, hg⟩
theorem inv_fail {p : List S44} {t : List Int} {G : Prop} {i k b : Nat} (h : Inv p t G i k 0 b) (hk : k < t.length)
    (hn : i = p.length ∨ (i < p.length ∧ (p.getD i z44).f2 = false ∧ ¬ lit (p.getD i z44) (t.getD k 0))) : ¬ G := by
  obtain ⟨h1, h2, h3, h4, h5, h6⟩ := h
  rw [h6]
  rintro (hg | ⟨h0, _⟩)
  · exact no_here hk hn hg
  · omega
theorem inv_end {p : List S44} {t : List Int} {G : Prop} {i a b : Nat} (h : Inv p t G i t.length a b) : G ↔ gm (p.drop i) [] := by
  obtain ⟨h1, h2, h3, h4, h5, h6⟩ := h
  rw [h6, List.drop_length]
  constructor
  · rintro (hg | ⟨_, j, hj, hj2, hg⟩)
    · exact hg
    · obtain ⟨s1, s2⟩ := seg p a (i - a) (by omega) (fun x hx hx2 => h5 x hx (by omega)) _ hg
      rw [List.length_drop] at s1
      omega
  · exact .inl
theorem inv_start (p : List S44) (t : List Int) : Inv p t (gm p t) 0 0 0 0 := by
  refine ⟨Nat.zero_le _, Nat.zero_le _, Nat.le_refl _, rfl, fun x _ hx => by omega, ?_⟩
  rw [List.drop_zero, List.drop_zero]
  constructor
  · exact .inl
  · rintro (h | ⟨h, _⟩)
    · exact h
    · omega
theorem rdT_nat (p : List S44) (i : Nat) : rd_T44 p (i : Int) = p.getD i z44 := rfl
theorem rd_nat (t : List Int) (i : Nat) : rd t (i : Int) = t.getD i 0 := rfl
theorem wsucc (i : Nat) (h : i ≤ 1000000) : wrap64 ((i : Int) + 1) = ((i + 1 : Nat) : Int) := by unfold wrap64; omega
theorem ends_l1 (p : List S44) (hp : p.length ≤ 1000000) (d : Nat) : ∀ (f i : Nat), p.length - i ≤ d → i ≤ p.length → d < f → ∃ r, text_Match.l1 f p (i : Int) = some r ∧ (r = true ↔ gm (p.drop i) []) := by
  have hend : ∀ (f i : Nat), i = p.length → ∃ r, text_Match.l1 (f + 1) p (i : Int) = some r ∧ (r = true ↔ gm (p.drop i) []) := by
    intro f i h
    refine ⟨true, ?_, ?_⟩
    · rw [text_Match.l1, if_neg (by omega), h, beq_self_eq_true]
    · rw [h, List.drop_length, gm]
      exact ⟨fun _ => rfl, fun _ => rfl⟩
  induction d with
  | zero =>
    intro f i h hi hf
    obtain ⟨f, rfl⟩ : ∃ j, f = j + 1 := ⟨f - 1, by omega⟩
    exact hend f i (by omega)
  | succ d ih =>
    intro f i h hi hf
    obtain ⟨f, rfl⟩ : ∃ j, f = j + 1 := ⟨f - 1, by omega⟩
    by_cases hlt : i < p.length
    · rw [text_Match.l1, if_pos (by omega), if_pos (by omega), rdT_nat]
      cases hs : (p.getD i z44).f2 with
      | true =>
        rw [if_pos rfl, wsucc i (by omega)]
        obtain ⟨r, e1, e2⟩ := ih f (i + 1) (by omega) (by omega) (by omega)
        refine ⟨r, e1, e2.trans ?_⟩
        rw [drop_g hlt, gm_many hs]
        constructor
        · intro hg; exact ⟨0, Nat.le_refl _, hg⟩
        · rintro ⟨j, _, hg⟩
          rw [List.drop_nil] at hg
          exact hg
      | false =>
        rw [if_neg Bool.false_ne_true]
        refine ⟨_, rfl, ?_⟩
        rw [drop_g hlt, gm_lit hs, beq_iff_eq]
        constructor
        · intro hg; omega
        · rintro ⟨c, t', e, _⟩
          cases e
    · exact hend f i (by omega)
theorem mu_back (n m b : Nat) (h : b < m) : (m - b) * (m + n + 2) = (m - (b + 1)) * (m + n + 2) + (m + n + 2) := by
  rw [show m - b = m - (b + 1) + 1 by omega, Nat.succ_mul]
theorem match_l0 (p : List S44) (t : List Int) (G : Prop) (hp : p.length ≤ 1000000) (ht : t.length ≤ 1000000) (d : Nat) : ∀ (f i k a b : Nat), Inv p t G i k a b →
    (t.length - b) * (t.length + p.length + 2) + (p.length - i) + (t.length - k) ≤ d → 3 * d + p.length + 10 < f →
    ∃ r, text_Match.l0 f p t (i : Int) (k : Int) ((a : Int) - 1) (b : Int) = some r ∧ (r = true ↔ G) := by
  have hend : ∀ (f i k a b : Nat), Inv p t G i k a b → ¬ k < t.length → p.length + 10 < f + 1 → ∃ r, text_Match.l0 (f + 1) p t (i : Int) (k : Int) ((a : Int) - 1) (b : Int) = some r ∧ (r = true ↔ G) := by
    intro f i k a b hI hk hf
    have hke : k = t.length := by have := hI.2.1; omega
    obtain ⟨r, e1, e2⟩ := ends_l1 p hp p.length f i (by omega) hI.1 (by omega)
    refine ⟨r, ?_, ?_⟩
    · rw [text_Match.l0, if_neg (by omega)]
      exact e1
    · rw [hke] at hI
      rw [inv_end hI]
      exact e2
  induction d with
  | zero =>
    intro f i k a b hI hd hf
    obtain ⟨f, rfl⟩ : ∃ j, f = j + 1 := ⟨f - 1, by omega⟩
    exact hend f i k a b hI (by have := hI.2.1; omega) (by omega)
  | succ d ih =>
    intro f i k a b hI hd hf
    by_cases hk : k < t.length
    · obtain ⟨f, rfl⟩ : ∃ j, f = j + 1 + 1 + 1 := ⟨f - 3, by omega⟩
      have h1 := hI.1
      have h3 := hI.2.2.1
      have h4 := hI.2.2.2.1
      -- the third step: a sign that stands for the rune, or none
      have hj2t : i < p.length → (p.getD i z44).f2 = false → lit (p.getD i z44) (t.getD k 0) → ∃ r, text_Match.j2 (f + 1) p t (i : Int) (k : Int) ((a : Int) - 1) (b : Int) true = some r ∧ (r = true ↔ G) := by
        intro hi hs hl
        rw [text_Match.j2, if_pos rfl, wsucc i (by omega), wsucc k (by omega)]
        exact ih f (i + 1) (k + 1) a b (inv_lit hI hi hk hs hl) (by omega) (by omega)
      have hj2f : (i = p.length ∨ (i < p.length ∧ (p.getD i z44).f2 = false ∧ ¬ lit (p.getD i z44) (t.getD k 0))) → ∃ r, text_Match.j2 (f + 1) p t (i : Int) (k : Int) ((a : Int) - 1) (b : Int) false = some r ∧ (r = true ↔ G) := by
        intro hn
        rw [text_Match.j2, if_neg Bool.false_ne_true]
        by_cases ha : 1 ≤ a
        · have e : wrap64 ((a : Int) - 1 + 1) = (a : Int) := by rw [Int.sub_add_cancel]; unfold wrap64; omega
          rw [if_pos (by omega), e, wsucc b (by omega)]
          have hm := mu_back p.length t.length b (by omega)
          refine ih f a (b + 1) a (b + 1) (inv_back hI hk ha hn) ?_ (by omega)
          generalize (t.length - b) * (t.length + p.length + 2) = X at *
          generalize (t.length - (b + 1)) * (t.length + p.length + 2) = Y at *
          omega
        · rw [if_neg (by omega)]
          have ha0 : a = 0 := by omega
          subst ha0
          exact ⟨false, rfl, ⟨fun h => (by cases h), fun h => absurd h (inv_fail hI hk hn)⟩⟩
      rw [text_Match.l0, if_pos (by omega)]
      by_cases hi : i < p.length
      · rw [if_pos (by omega), if_pos (by omega), rdT_nat]
        cases hs : (p.getD i z44).f2 with
        | true =>
          rw [text_Match.j1, if_pos rfl, wsucc i (by omega)]
          have hI2 := inv_star hI hi hs
          have hle : (t.length - k) * (t.length + p.length + 2) ≤ (t.length - b) * (t.length + p.length + 2) := Nat.mul_le_mul_right _ (by omega)
          have := ih (f + 1) (i + 1) k (i + 1) k hI2 (by
            generalize (t.length - b) * (t.length + p.length + 2) = X at *
            generalize (t.length - k) * (t.length + p.length + 2) = Y at *
            omega) (by omega)
          rw [show (((i + 1 : Nat) : Int) - 1) = (i : Int) by omega] at this
          exact this
        | false =>
          rw [text_Match.j1, if_neg Bool.false_ne_true, if_pos (by omega), if_pos (by omega), rdT_nat]
          by_cases hany : (p.getD i z44).f1 = true
          · rw [if_pos hany]
            exact hj2t hi hs (.inl hany)
          · rw [if_neg hany, if_pos (by omega), if_pos (by omega), rd_nat]
            by_cases he : (p.getD i z44).f0 = t.getD k 0
            · rw [beq_iff_eq.mpr he]
              exact hj2t hi hs (.inr he)
            · rw [beq_eq_false_iff_ne.mpr he]
              exact hj2f (.inr ⟨hi, hs, fun hl => hl.elim hany he⟩)
      · rw [if_neg (by omega), text_Match.j1, if_neg Bool.false_ne_true, if_neg (by omega)]
        exact hj2f (.inl (by omega))
    · obtain ⟨f, rfl⟩ : ∃ j, f = j + 1 := ⟨f - 1, by omega⟩
      exact hend f i k a b hI hk (by omega)
/-- What text.Match tells. -/
theorem match_is (f : Nat) (a0 a1 : ByteArray) (h0 : a0.size ≤ 700) (h1 : a1.size ≤ 700) (hp : (signsL false (runesI a0)).length ≤ 701) (ht : (runesI a1).length ≤ 700) (hf : 3000000 ≤ f) :
    ∃ r, text_Match.f f a0 a1 = some r ∧ (r = true ↔ gm (signsL false (runesI a0)) (runesI a1)) := by
  have e0 : text_signs.f a0 = some (signsL false (runesI a0)) := by unfold text_signs.f; rw [if_pos (by omega)]
  have e1 : text_runes.f a1 = some (runesI a1) := by unfold text_runes.f; rw [if_pos (by omega)]
  unfold text_Match.f
  rw [e0, Option.bind_some, e1, Option.bind_some]
  have hm : (runesI a1).length * ((runesI a1).length + (signsL false (runesI a0)).length + 2) ≤ 700 * 1403 := Nat.mul_le_mul ht (by omega)
  have := match_l0 _ _ _ (by omega) (by omega) 985000 f 0 0 0 0 (inv_start (signsL false (runesI a0)) (runesI a1)) (by simp only [Nat.sub_zero]; omega) (by omega)
  exact this
end Go.Proofs.YtphimckceegiiaaDoor.Glob
