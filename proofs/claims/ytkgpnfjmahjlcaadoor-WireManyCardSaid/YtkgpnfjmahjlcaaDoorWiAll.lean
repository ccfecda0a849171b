/- (Out of XSpanAwake, for chapter 17.) Names and times; Small tells. -/
import Derived.Test.YtkgpnfjmahjlcaaDoorPAllx4
import Derived.Test.YtkgpnfjmahjlcaaDoorPAllx10
import Derived.Test.YtkgpnfjmahjlcaaDoorWiJoin
import Derived.Lib.ValidLaws
import Derived.Test.YtkgpnfjmahjlcaaDoorPAllx6
import Derived.Test.YtkgpnfjmahjlcaaDoorPAllx15
import Derived.Test.YtkgpnfjmahjlcaaDoorWiCut
import Derived.Laws.ResultCell
import Derived.Test.YtkgpnfjmahjlcaaDoorPAllx8
import Derived.Test.YtkgpnfjmahjlcaaDoorReads
import Derived.Test.YtkgpnfjmahjlcaaDoorPAllx11
namespace Go.Proofs.YtkgpnfjmahjlcaaDoor.Pure
open Go.RowKit Go.Proofs.YtkgpnfjmahjlcaaDoorW.PrintWords Go.Proofs.YtkgpnfjmahjlcaaDoorW.PrintLast Go.Proofs.YtkgpnfjmahjlcaaDoorW.PrintMore Go.Proofs.YtkgpnfjmahjlcaaDoor.Math
open Go.Proofs.YtkgpnfjmahjlcaaDoor.PAll Go.Proofs.YtkgpnfjmahjlcaaDoor.Runes Go.Proofs.YtkgpnfjmahjlcaaDoor.Text Go.Proofs.YtkgpnfjmahjlcaaDoor.Span
set_option linter.unusedVariables false
set_option linter.unusedSimpArgs false
theorem one_right (c : UInt8) (h : c.toNat < 127) (h2 : 32 ≤ c.toNat) : rightT (⟨#[c]⟩ : ByteArray) = true := by
  have hs : (⟨#[c]⟩ : ByteArray).size = 1 := rfl
  have hn : nb (⟨#[c]⟩ : ByteArray) 0 = c.toNat := rfl
  have hd : Utf8.decode (⟨#[c]⟩ : ByteArray) 0 = (c.toNat, 1) := by
    have e := Lib.decode_at (⟨#[c]⟩ : ByteArray) 0
    rw [e]
    unfold Lib.decodeN
    exact if_pos (show c.toNat < 128 by omega)
  have hr : runesI (⟨#[c]⟩ : ByteArray) = [(c.toNat : Int)] := by
    unfold runesI
    rw [from_lt (by rw [hs]; omega)]
    have hw : wd (⟨#[c]⟩ : ByteArray) 0 = 1 := by unfold wd; rw [hd]
    have hr : rn (⟨#[c]⟩ : ByteArray) 0 = c.toNat := by unfold rn; rw [hd]
    rw [hw, from_ge (by rw [hs]; omega), List.map_cons, hr]
    rfl
  have hv : Lib.validD [c] = true := by
    rw [Lib.validD_step _ (by simp), Lib.decodeL_ascii c [] (by omega)]
    rw [if_neg (by simp only; omega)]
    exact Lib.validD_nil
  unfold rightT
  rw [hr, show (⟨#[c]⟩ : ByteArray).data.toList = [c] from rfl, hv, Bool.true_and, List.all_cons, List.all_nil, Bool.and_true]
  unfold okI
  have h3 : ¬ (c.toNat : Int) < 32 := by omega
  have h4 : ¬ (c.toNat : Int) ≥ 127 := by omega
  rw [decide_eq_false h3, decide_eq_false h4]
  rfl
theorem name_eqS (s : ByteArray) : span_mayName.f s = some (nameB s) := by
  unfold span_mayName.f nameB
  split
  · rfl
  · split
    · rw [right_eq s (by omega)]
      rfl
    · rfl
theorem time_eqS (n : Int) : span_mayTime.f n = some (timeB n) := by
  unfold span_mayTime.f timeB
  split <;> rfl
theorem one_name (c : UInt8) (h : c.toNat < 127) (h2 : 32 ≤ c.toNat) : nameB (⟨#[c]⟩ : ByteArray) = true := by
  unfold nameB
  rw [if_neg (by rw [ByteArray.toList_eq]; exact List.cons_ne_nil _ _), if_pos (by show ((1 : Nat) : Int) ≤ 32; omega), one_right c h h2]
theorem wsuc (i : Nat) (h : i ≤ 200000000000000) : wrap64 ((i : Int) + 1) = ((i + 1 : Nat) : Int) := by unfold wrap64; omega
theorem small_l1 (a b c : Int) (s o : ByteArray) (d e f : Int) (A : List S53) (E : List S55) (L : List S68) (hE : E.length ≤ 140737488351232) (n : Nat) :
    ∀ (k i : Nat) (x : Int), E.length - i ≤ n → n < k → ∃ r, cambiumref16_Small.l1 k x (i : Int) a b c s o d e f A E L = some r := by
  induction n with
  | zero =>
    intro k i x h hk
    obtain ⟨k, rfl⟩ : ∃ j, k = j + 1 := ⟨k - 1, by omega⟩
    exact ⟨_, by rw [cambiumref16_Small.l1, if_neg (by omega)]⟩
  | succ n ih =>
    intro k i x h hk
    obtain ⟨k, rfl⟩ : ∃ j, k = j + 1 := ⟨k - 1, by omega⟩
    by_cases hlt : i < E.length
    · rw [cambiumref16_Small.l1, if_pos (by omega)]
      by_cases hx : x ≤ 6000
      · rw [if_pos hx, if_pos (by omega), wsuc i (by omega)]
        exact ih k (i + 1) _ (by omega) (by omega)
      · exact ⟨_, by rw [if_neg hx]⟩
    · exact ⟨_, by rw [cambiumref16_Small.l1, if_neg (by omega)]⟩
theorem small_l0 (a b c : Int) (s o : ByteArray) (d e f : Int) (A : List S53) (E : List S55) (L : List S68) (hA : A.length ≤ 140737488351232) (hE : E.length ≤ 140737488351232) (n : Nat) :
    ∀ (k i : Nat) (x : Int), A.length - i ≤ n → n + E.length + 2 < k → ∃ r, cambiumref16_Small.l0 k x (i : Int) a b c s o d e f A E L = some r := by
  have hend : ∀ (k : Nat) (x : Int), E.length + 1 < k → ∃ r, cambiumref16_Small.j1 k x a b c s o d e f A E L = some r := by
    intro k x hk
    obtain ⟨k, rfl⟩ : ∃ j, k = j + 1 := ⟨k - 1, by omega⟩
    rw [cambiumref16_Small.j1]
    exact small_l1 a b c s o d e f A E L hE E.length k 0 x (by omega) (by omega)
  induction n with
  | zero =>
    intro k i x h hk
    obtain ⟨k, rfl⟩ : ∃ j, k = j + 1 := ⟨k - 1, by omega⟩
    rw [cambiumref16_Small.l0, if_neg (by omega)]
    exact hend k x (by omega)
  | succ n ih =>
    intro k i x h hk
    obtain ⟨k, rfl⟩ : ∃ j, k = j + 1 := ⟨k - 1, by omega⟩
    by_cases hlt : i < A.length
    · rw [cambiumref16_Small.l0, if_pos (by omega)]
      by_cases hx : x ≤ 6000
      · rw [if_pos hx, if_pos (by omega), wsuc i (by omega)]
        exact ih k (i + 1) _ (by omega) (by omega)
      · rw [if_neg hx]
        exact hend k x (by omega)
    · rw [cambiumref16_Small.l0, if_neg (by omega)]
      exact hend k x (by omega)
theorem small_some (k : Nat) (a b c : Int) (s o : ByteArray) (d e f : Int) (A : List S53) (E : List S55) (L : List S68) (hA : A.length ≤ 140737488351232) (hE : E.length ≤ 140737488351232) (hk : A.length + E.length + 3 < k) :
    ∃ r, cambiumref16_Small.f k a b c s o d e f A E L = some r := by
  unfold cambiumref16_Small.f
  exact small_l0 a b c s o d e f A E L hA hE A.length k 0 _ (by omega) (by omega)
end Go.Proofs.YtkgpnfjmahjlcaaDoor.Pure

namespace Go.Proofs.YtkgpnfjmahjlcaaDoor.Pure
open Go.RowKit Go.Proofs.YtkgpnfjmahjlcaaDoorW.PrintWords Go.Proofs.YtkgpnfjmahjlcaaDoorW.PrintLast Go.Proofs.YtkgpnfjmahjlcaaDoorW.PrintMore Go.Proofs.YtkgpnfjmahjlcaaDoor.Math
open Go.Proofs.YtkgpnfjmahjlcaaDoor.PAll Go.Proofs.YtkgpnfjmahjlcaaDoor.Runes Go.Proofs.YtkgpnfjmahjlcaaDoor.Text Go.Proofs.YtkgpnfjmahjlcaaDoor.Span Go.Proofs.YtkgpnfjmahjlcaaDoor.NumFacts
set_option linter.unusedVariables false
set_option linter.unusedSimpArgs false
theorem bytesLess_lex : ∀ (x y : List UInt8), Op.bytesLess x y = lexLt (nums x) (nums y) := by
  intro x
  induction x with
  | nil => intro y; cases y <;> rfl
  | cons a s ih =>
    intro y
    cases y with
    | nil => rfl
    | cons b t =>
      have l1 : lexLt (nums (a :: s)) (nums (b :: t)) = if (a.toNat : Int) = (b.toNat : Int) then lexLt (nums s) (nums t) else decide ((a.toNat : Int) < (b.toNat : Int)) := rfl
      have hlt : a < b ↔ (a.toNat : Int) < (b.toNat : Int) := by rw [UInt8.lt_iff_toNat_lt]; omega
      rw [Op.bytesLess, l1, ih t]
      by_cases e : (a.toNat : Int) = (b.toNat : Int)
      · have hab : a = b := UInt8.toNat_inj.mp (by omega)
        subst hab
        rw [if_pos rfl, beq_self_eq_true, decide_eq_false (by rw [hlt]; omega), Bool.false_or, Bool.true_and]
      · have hab : (a == b) = false := by rw [beq_eq_false_iff_ne]; intro h; exact e (by rw [h])
        rw [if_neg e, hab, Bool.false_and, Bool.or_false]
        exact decide_eq_decide.mpr hlt
def at_ (A : List S53) (i : Nat) : S53 := A.getD i z53
def mvA (x : S53) : Bool := mvB x.f1.f0 x.f1.f1 x.f1.f2 x.f1.f3
def ordA (A : List S53) (i : Nat) : Bool := if i = 0 then true else lexLt (nums (at_ A (i - 1)).f0.data.toList) (nums (at_ A i).f0.data.toList)
/-- So many attributes, from one on, may be. -/
def attrsOk (A : List S53) : Nat → Nat → Bool
  | 0, _ => true
  | n + 1, i => if nameB (at_ A i).f0 = true then (if mvA (at_ A i) = true then (if ordA A i = true then attrsOk A n (i + 1) else false) else false) else false
theorem wpre (i : Nat) (h : i + 1 ≤ 200000000000000) : wrap64 (((i + 1 : Nat) : Int) - 1) = (i : Int) := by unfold wrap64; omega
theorem name_size (s : ByteArray) (h : nameB s = true) : s.size ≤ 32 := by
  unfold nameB at h
  split at h
  · cases h
  · split at h
    · omega
    · cases h
theorem attrs_l0 (A : List S53) (hA : A.length ≤ 140737488351232) (n : Nat) : ∀ (k i : Nat), A.length - i = n → i ≤ A.length → n < k →
    span_mayAttrs.l0 k A A (A.length : Int) (i : Int) = some (attrsOk A n i && decide ((A.length : Int) ≤ 16)) := by
  induction n with
  | zero =>
    intro k i h hi hk
    obtain ⟨k, rfl⟩ : ∃ j, k = j + 1 := ⟨k - 1, by omega⟩
    rw [span_mayAttrs.l0, if_neg (by omega), attrsOk, Bool.true_and]
  | succ n ih =>
    intro k i h hi hk
    obtain ⟨k, rfl⟩ : ∃ j, k = j + 1 := ⟨k - 1, by omega⟩
    have hx : rd_T53 A (i : Int) = at_ A i := rfl
    rw [span_mayAttrs.l0, if_pos (by omega), if_pos (by omega), if_pos (by omega), hx, name_eqS, Option.bind_some, attrsOk]
    cases hn : nameB (at_ A i).f0 with
    | false => rw [if_neg Bool.false_ne_true, if_neg Bool.false_ne_true, Bool.false_and]
    | true =>
      have hm : span_MayValue.f (at_ A i).f1.f0 (at_ A i).f1.f1 (at_ A i).f1.f2 (at_ A i).f1.f3 = some (mvA (at_ A i)) := rfl
      rw [if_pos rfl, if_pos rfl, hm, Option.bind_some]
      cases hv : mvA (at_ A i) with
      | false => rw [if_neg Bool.false_ne_true, if_neg Bool.false_ne_true, Bool.false_and]
      | true =>
        rw [if_pos rfl, if_pos rfl, wsuc i (by omega)]
        cases i with
        | zero =>
          have ho : ordA A 0 = true := rfl
          rw [if_neg (by omega), if_pos ho]
          exact ih k 1 (by omega) (by omega) (by omega)
        | succ j =>
          have hy : rd_T53 A (j : Int) = at_ A j := rfl
          have ho : ordA A (j + 1) = lexLt (nums (at_ A j).f0.data.toList) (nums (at_ A (j + 1)).f0.data.toList) := rfl
          rw [if_pos (by omega), wpre j (by omega), if_pos (by omega), if_pos (by omega), hy, bytesLess_lex, ByteArray.toList_eq, ByteArray.toList_eq, ho]
          cases hl : lexLt (nums (at_ A j).f0.data.toList) (nums (at_ A (j + 1)).f0.data.toList) with
          | false => rw [if_neg Bool.false_ne_true, if_neg Bool.false_ne_true, Bool.false_and]
          | true =>
            rw [if_pos rfl, if_pos rfl]
            exact ih k (j + 1 + 1) (by omega) (by omega) (by omega)
theorem attrs_eq (k : Nat) (A : List S53) (hA : A.length ≤ 140737488351232) (hk : A.length < k) : span_mayAttrs.f k A = some (attrsOk A A.length 0 && decide ((A.length : Int) ≤ 16)) :=
  attrs_l0 A hA A.length k 0 (by omega) (by omega) hk
def HeadP (a b c : Int) (s o : ByteArray) (d e f : Int) : Prop := a ≠ 0 ∧ b ≠ 0 ∧ c ≠ b ∧ nameB s = true ∧ nameB o = true ∧ timeB d = true ∧ timeB e = true ∧ 0 ≤ f ∧ f ≤ 2
def BodyP (A : List S53) (E : List S55) (L : List S68) : Prop :=
  attrsOk A A.length 0 = true ∧ (A.length : Int) ≤ 16 ∧ (E.length : Int) ≤ 16 ∧ (L.length : Int) ≤ 16 ∧ E.any evBad = false ∧ L.any liBad = false
theorem no_of {P : Prop} (h : ¬ P) : ∃ r, (some false : Option Bool) = some r ∧ (r = true ↔ P) := ⟨false, rfl, ⟨fun h => (by cases h), fun p => absurd p h⟩⟩
theorem span_may (k : Nat) (a b c : Int) (s o : ByteArray) (d e f : Int) (A : List S53) (E : List S55) (L : List S68) (hA : A.length ≤ 140737488351232) (hk : A.length + 1 < k) :
    ∃ r, span_May.f k a b c s o d e f A E L = some r ∧ (r = true ↔ HeadP a b c s o d e f ∧ BodyP A E L) := by
  obtain ⟨k, rfl⟩ : ∃ j, k = j + 1 := ⟨k - 1, by omega⟩
  have hf : span_May.j0 (k + 1) false a b c s o d e f A E L = some false := by
    rw [span_May.j0, time_eqS, Option.bind_some, time_eqS]
    cases timeB d
    · rw [if_neg Bool.false_ne_true, if_neg Bool.false_ne_true]
    · rw [if_pos rfl, Option.bind_some]
      cases timeB e
      · rw [if_neg Bool.false_ne_true, if_neg Bool.false_ne_true]
      · rw [if_pos rfl]
        by_cases h : f ≥ 0
        · rw [if_pos h, if_neg Bool.false_ne_true]
        · rw [if_neg h, if_neg Bool.false_ne_true]
  unfold span_May.f
  by_cases h0 : a = 0
  · rw [if_pos h0, hf]; exact no_of (fun h => h.1.1 h0)
  rw [if_neg h0]
  by_cases h1 : b = 0
  · rw [if_pos h1, hf]; exact no_of (fun h => h.1.2.1 h1)
  rw [if_neg h1]
  by_cases h2 : c = b
  · rw [if_pos h2, hf]; exact no_of (fun h => h.1.2.2.1 h2)
  rw [if_neg h2, name_eqS, Option.bind_some]
  cases h3 : nameB s with
  | false => rw [if_neg Bool.false_ne_true, hf]; exact no_of (fun h => by have := h.1.2.2.2.1; rw [h3] at this; cases this)
  | true =>
  rw [if_pos rfl, name_eqS, Option.bind_some]
  cases h4 : nameB o with
  | false => rw [hf]; exact no_of (fun h => by have := h.1.2.2.2.2.1; rw [h4] at this; cases this)
  | true =>
  rw [span_May.j0, time_eqS, Option.bind_some, time_eqS]
  cases h5 : timeB d with
  | false => rw [if_neg Bool.false_ne_true, if_pos rfl]; exact no_of (fun h => by have := h.1.2.2.2.2.2.1; rw [h5] at this; cases this)
  | true =>
  rw [if_pos rfl, Option.bind_some]
  cases h6 : timeB e with
  | false => rw [if_neg Bool.false_ne_true, if_pos rfl]; exact no_of (fun h => by have := h.1.2.2.2.2.2.2.1; rw [h6] at this; cases this)
  | true =>
  rw [if_pos rfl]
  by_cases h7 : f ≥ 0
  rotate_left
  · rw [if_neg h7, if_pos rfl]; exact no_of (fun h => h7 h.1.2.2.2.2.2.2.2.1)
  rw [if_pos h7, if_pos rfl]
  by_cases h8 : f ≤ 2
  rotate_left
  · rw [if_neg h8]; exact no_of (fun h => h8 h.1.2.2.2.2.2.2.2.2)
  have hh : HeadP a b c s o d e f := ⟨h0, h1, h2, h3, h4, h5, h6, h7, h8⟩
  rw [if_pos h8, attrs_eq k A hA (by omega), Option.bind_some]
  cases h9 : (attrsOk A A.length 0 && decide ((A.length : Int) ≤ 16)) with
  | false =>
    rw [if_neg Bool.false_ne_true]
    exact no_of (fun h => by rw [h.2.1, decide_eq_true h.2.2.1] at h9; cases h9)
  | true =>
  rw [Bool.and_eq_true, decide_eq_true_eq] at h9
  have hE : span_mayEvents.f E = some (decide ((E.length : Int) ≤ 16) && !(E.any evBad)) := rfl
  have hL : span_mayLinks.f L = some (decide ((L.length : Int) ≤ 16) && !(L.any liBad)) := rfl
  rw [if_pos rfl, hE, Option.bind_some]
  cases h10 : (decide ((E.length : Int) ≤ 16) && !(E.any evBad)) with
  | false =>
    rw [if_neg Bool.false_ne_true]
    exact no_of (fun h => by rw [h.2.2.2.2.2.1, decide_eq_true h.2.2.2.1] at h10; cases h10)
  | true =>
  rw [Bool.and_eq_true, decide_eq_true_eq, Bool.not_eq_true'] at h10
  rw [if_pos rfl, hL, Option.bind_some]
  refine ⟨_, rfl, ?_⟩
  rw [Bool.and_eq_true, decide_eq_true_eq, Bool.not_eq_true']
  exact ⟨fun h => ⟨hh, h9.1, h9.2, h10.1, h.1, h10.2, h.2⟩, fun h => ⟨h.2.2.2.2.1, h.2.2.2.2.2.2⟩⟩
theorem refname (k : Nat) (s : ByteArray) (hk : 500 < k) : cambiumref16_Name.f k s = some (nameB s) := by
  unfold cambiumref16_Name.f nameB
  by_cases h : s.toList = ([] : List UInt8)
  · have hs : s.size = 0 := by rw [ByteArray.toList_eq] at h; have := congrArg List.length h; rw [Array.length_toList] at this; exact this
    rw [if_pos h, if_neg (by omega)]
  · have hs : (s.size : Int) ≥ 1 := by
      apply Classical.byContradiction
      intro hn
      apply h
      rw [ByteArray.toList_eq]
      apply List.eq_nil_of_length_eq_zero
      rw [Array.length_toList]
      show s.size = 0
      omega
    rw [if_neg h, if_pos hs]
    by_cases h2 : (s.size : Int) ≤ 32
    · rw [if_pos h2, if_pos h2, right_ref k s (by omega) hk, Option.bind_some]
    · rw [if_neg h2, if_neg h2]
theorem reftime (n : Int) : cambiumref16_time.f n = some (timeB n) := by
  unfold cambiumref16_time.f timeB
  split <;> rfl
theorem may_l2 (a b c : Int) (s o : ByteArray) (d e f : Int) (A : List S53) (E : List S55) (L : List S68) (hL : L.length ≤ 140737488351232) (n : Nat) : ∀ (k i : Nat), L.length - i ≤ n → n < k → cambiumref16_May.l2 k (i : Int) a b c s o d e f A E L = some (!((L.drop i).any liBad)) := by
  have hend : ∀ (k i : Nat), ¬ i < L.length → cambiumref16_May.l2 (k + 1) (i : Int) a b c s o d e f A E L = some (!((L.drop i).any liBad)) := by
    intro k i h
    rw [cambiumref16_May.l2, if_neg (by omega), List.drop_eq_nil_of_le (by omega)]
    rfl
  induction n with
  | zero =>
    intro k i h hk
    obtain ⟨k, rfl⟩ : ∃ j, k = j + 1 := ⟨k - 1, by omega⟩
    exact hend k i (by omega)
  | succ n ih =>
    intro k i h hk
    obtain ⟨k, rfl⟩ : ∃ j, k = j + 1 := ⟨k - 1, by omega⟩
    by_cases hlt : i < L.length
    · have hx : rd_T68 L (i : Int) = L.getD i z68 := rfl
      rw [cambiumref16_May.l2, if_pos (by omega), if_pos (by omega), hx, drop_z (z := z68) hlt, List.any_cons, wsuc i (by omega)]
      unfold liBad at ih ⊢
      by_cases h0 : (L.getD i z68).f0 = 0
      · rw [if_pos h0, beq_iff_eq.mpr h0]; rfl
      · rw [if_neg h0, beq_eq_false_iff_ne.mpr h0]
        by_cases h1 : (L.getD i z68).f1 = 0
        · rw [if_pos h1, beq_iff_eq.mpr h1]; rfl
        · rw [if_neg h1, beq_eq_false_iff_ne.mpr h1, ih k (i + 1) (by omega) (by omega)]; rfl
    · exact hend k i hlt
theorem may_l1 (a b c : Int) (s o : ByteArray) (d e f : Int) (A : List S53) (E : List S55) (L : List S68) (hE : E.length ≤ 140737488351232) (hL : L.length ≤ 140737488351232) (n : Nat) : ∀ (k i : Nat), E.length - i ≤ n → n + L.length + 502 < k → cambiumref16_May.l1 k (i : Int) a b c s o d e f A E L = some (!((E.drop i).any evBad) && !(L.any liBad)) := by
  have hend : ∀ (k i : Nat), ¬ i < E.length → L.length < k → cambiumref16_May.l1 (k + 1) (i : Int) a b c s o d e f A E L = some (!((E.drop i).any evBad) && !(L.any liBad)) := by
    intro k i h hk
    have h2 := may_l2 a b c s o d e f A E L hL L.length k 0 (by omega) hk
    rw [cambiumref16_May.l1, if_neg (by omega), List.drop_eq_nil_of_le (by omega), (show cambiumref16_May.l2 k 0 a b c s o d e f A E L = _ from h2)]
    rfl
  induction n with
  | zero =>
    intro k i h hk
    obtain ⟨k, rfl⟩ : ∃ j, k = j + 1 := ⟨k - 1, by omega⟩
    exact hend k i (by omega) (by omega)
  | succ n ih =>
    intro k i h hk
    obtain ⟨k, rfl⟩ : ∃ j, k = j + 1 := ⟨k - 1, by omega⟩
    by_cases hlt : i < E.length
    · have hx : rd_T55 E (i : Int) = E.getD i z55 := rfl
      rw [cambiumref16_May.l1, if_pos (by omega), if_pos (by omega), hx, reftime, Option.bind_some, drop_z (z := z55) hlt, List.any_cons, wsuc i (by omega)]
      have hb : evBad (E.getD i z55) = (!(timeB (E.getD i z55).f0) || !(nameB (E.getD i z55).f1)) := rfl
      rw [hb]
      cases ht : timeB (E.getD i z55).f0 with
      | false => rw [if_neg Bool.false_ne_true]; rfl
      | true =>
        rw [if_pos rfl, refname k _ (by omega), Option.bind_some]
        cases hn : nameB (E.getD i z55).f1 with
        | false => rw [if_neg Bool.false_ne_true]; rfl
        | true => rw [if_pos rfl, ih k (i + 1) (by omega) (by omega)]; rfl
    · exact hend k i hlt (by omega)
theorem may_l0 (a b c : Int) (s o : ByteArray) (d e f : Int) (A : List S53) (E : List S55) (L : List S68) (hA : A.length ≤ 16) (hE : E.length ≤ 140737488351232) (hL : L.length ≤ 140737488351232) (n : Nat) : ∀ (k i : Nat), A.length - i = n → i ≤ A.length → n + E.length + L.length + 2203 < k → (∀ j, i = j + 1 → (at_ A j).f0.size ≤ 1000) →
    cambiumref16_May.l0 k (i : Int) a b c s o d e f A E L = some (attrsOk A n i && (!(E.any evBad) && !(L.any liBad))) := by
  induction n with
  | zero =>
    intro k i h hi hk hp
    obtain ⟨k, rfl⟩ : ∃ j, k = j + 1 := ⟨k - 1, by omega⟩
    have h2 := may_l1 a b c s o d e f A E L hE hL E.length k 0 (by omega) (by omega)
    rw [cambiumref16_May.l0, if_neg (by omega), attrsOk, Bool.true_and, (show cambiumref16_May.l1 k 0 a b c s o d e f A E L = _ from h2)]
    rfl
  | succ n ih =>
    intro k i h hi hk hp
    obtain ⟨k, rfl⟩ : ∃ j, k = j + 1 := ⟨k - 1, by omega⟩
    have hx : rd_T53 A (i : Int) = at_ A i := rfl
    rw [cambiumref16_May.l0, if_pos (by omega), if_pos (by omega), hx, refname k _ (by omega), Option.bind_some, attrsOk]
    cases hn : nameB (at_ A i).f0 with
    | false => rw [if_neg Bool.false_ne_true, if_neg Bool.false_ne_true, Bool.false_and]
    | true =>
      have hm := refval k (at_ A i).f1.f0 (at_ A i).f1.f1 (at_ A i).f1.f2 (at_ A i).f1.f3 (by omega)
      have hsz := name_size _ hn
      rw [if_pos rfl, if_pos rfl, hm, Option.bind_some]
      have hmv : mvB (at_ A i).f1.f0 (at_ A i).f1.f1 (at_ A i).f1.f2 (at_ A i).f1.f3 = mvA (at_ A i) := rfl
      rw [hmv]
      cases hv : mvA (at_ A i) with
      | false => rw [if_neg Bool.false_ne_true, if_neg Bool.false_ne_true, Bool.false_and]
      | true =>
        rw [if_pos rfl, if_pos rfl, wsuc i (by omega)]
        cases i with
        | zero =>
          have ho : ordA A 0 = true := rfl
          rw [if_neg (by omega), if_pos ho]
          exact ih k 1 (by omega) (by omega) (by omega) (fun j hj => by have : j = 0 := by omega
                                                                        subst this; omega)
        | succ j =>
          have hy : rd_T53 A (j : Int) = at_ A j := rfl
          have ho : ordA A (j + 1) = lexLt (nums (at_ A j).f0.data.toList) (nums (at_ A (j + 1)).f0.data.toList) := rfl
          have hps : (at_ A j).f0.size ≤ 1000 := hp j rfl
          rw [if_pos (by omega), wpre j (by omega), if_pos (by omega), if_pos (by omega), hy, if_pos (by omega), if_pos (by omega), less_txt k _ _ hps (by omega), Option.bind_some, ho]
          cases hl : lexLt (nums (at_ A j).f0.data.toList) (nums (at_ A (j + 1)).f0.data.toList) with
          | false => rw [if_neg Bool.false_ne_true, if_neg Bool.false_ne_true, Bool.false_and]
          | true =>
            rw [if_pos rfl, if_pos rfl]
            exact ih k (j + 1 + 1) (by omega) (by omega) (by omega) (fun m hm => by have : m = j + 1 := by omega
                                                                                    subst this; omega)
theorem ref_may (k : Nat) (a b c : Int) (s o : ByteArray) (d e f : Int) (A : List S53) (E : List S55) (L : List S68) (hE : E.length ≤ 140737488351232) (hL : L.length ≤ 140737488351232) (hk : E.length + L.length + 2300 < k) :
    ∃ r, cambiumref16_May.f k a b c s o d e f A E L = some r ∧ (r = true ↔ HeadP a b c s o d e f ∧ BodyP A E L) := by
  obtain ⟨k, rfl⟩ : ∃ j, k = j + 1 + 1 := ⟨k - 2, by omega⟩
  have hf : cambiumref16_May.j0 (k + 1 + 1) true a b c s o d e f A E L = some false := by rw [cambiumref16_May.j0, if_pos rfl]
  have hf1 : cambiumref16_May.j1 (k + 1) true a b c s o d e f A E L = some false := by rw [cambiumref16_May.j1, if_pos rfl]
  unfold cambiumref16_May.f
  by_cases h0 : a = 0
  · rw [if_pos h0, hf]; exact no_of (fun h => h.1.1 h0)
  rw [if_neg h0]
  by_cases h1 : b = 0
  · rw [if_pos h1, hf]; exact no_of (fun h => h.1.2.1 h1)
  rw [if_neg h1]
  by_cases h2 : c = b
  · rw [if_pos h2, hf]; exact no_of (fun h => h.1.2.2.1 h2)
  rw [if_neg h2, refname _ s (by omega), Option.bind_some]
  cases h3 : nameB s with
  | false => rw [if_neg Bool.false_ne_true, hf]; exact no_of (fun h => by have := h.1.2.2.2.1; rw [h3] at this; cases this)
  | true =>
  rw [if_pos rfl, refname _ o (by omega), Option.bind_some]
  cases h4 : nameB o with
  | false => rw [if_neg Bool.false_ne_true, hf]; exact no_of (fun h => by have := h.1.2.2.2.2.1; rw [h4] at this; cases this)
  | true =>
  rw [if_pos rfl, reftime, Option.bind_some]
  cases h5 : timeB d with
  | false => rw [if_neg Bool.false_ne_true, hf]; exact no_of (fun h => by have := h.1.2.2.2.2.2.1; rw [h5] at this; cases this)
  | true =>
  rw [if_pos rfl, reftime, Option.bind_some]
  cases h6 : timeB e with
  | false => rw [if_neg Bool.false_ne_true, hf]; exact no_of (fun h => by have := h.1.2.2.2.2.2.2.1; rw [h6] at this; cases this)
  | true =>
  rw [if_pos rfl]
  by_cases h7 : f < 0
  · rw [if_pos h7, hf]; exact no_of (fun h => by have := h.1.2.2.2.2.2.2.2.1; omega)
  rw [if_neg h7]
  by_cases h8 : f > 2
  · rw [decide_eq_true h8, hf]; exact no_of (fun h => by have := h.1.2.2.2.2.2.2.2.2; omega)
  have hh : HeadP a b c s o d e f := ⟨h0, h1, h2, h3, h4, h5, h6, by omega, by omega⟩
  rw [decide_eq_false h8, cambiumref16_May.j0, if_neg Bool.false_ne_true]
  by_cases h9 : (A.length : Int) > 16
  · rw [if_pos h9, hf1]; exact no_of (fun h => by have := h.2.2.1; omega)
  rw [if_neg h9]
  by_cases h10 : (E.length : Int) > 16
  · rw [if_pos h10, hf1]; exact no_of (fun h => by have := h.2.2.2.1; omega)
  rw [if_neg h10]
  by_cases h11 : (L.length : Int) > 16
  · rw [decide_eq_true h11, hf1]; exact no_of (fun h => by have := h.2.2.2.2.1; omega)
  have h12 := may_l0 a b c s o d e f A E L (by omega) hE hL A.length k 0 (by omega) (by omega) (by omega) (fun j hj => by omega)
  rw [decide_eq_false h11, cambiumref16_May.j1, if_neg Bool.false_ne_true, (show cambiumref16_May.l0 k 0 a b c s o d e f A E L = _ from h12)]
  refine ⟨_, rfl, ?_⟩
  rw [Bool.and_eq_true, Bool.and_eq_true, Bool.not_eq_true', Bool.not_eq_true']
  exact ⟨fun h => ⟨hh, h.1, by omega, by omega, by omega, h.2.1, h.2.2⟩, fun h => ⟨h.2.1, h.2.2.2.2.2.1, h.2.2.2.2.2.2⟩⟩
end Go.Proofs.YtkgpnfjmahjlcaaDoor.Pure

namespace Go.Proofs.YtkgpnfjmahjlcaaDoor.Wi
open Go.RowKit Go.Proofs.YtkgpnfjmahjlcaaDoorW.PrintWords Go.Proofs.YtkgpnfjmahjlcaaDoorW.PrintLast Go.Proofs.YtkgpnfjmahjlcaaDoorW.PrintMore Go.Proofs.YtkgpnfjmahjlcaaDoor.Math Go.Proofs.YtkgpnfjmahjlcaaDoor.PAll Go.Proofs.YtkgpnfjmahjlcaaDoor.NumFacts Go.Proofs.YtkgpnfjmahjlcaaDoor.Pure
set_option linter.unusedVariables false
set_option linter.unusedSimpArgs false
theorem results_row_tmp {P : Program} {fn : Func} {p u : Tmp} {ty : TypeId} (h : fn.results = #[.cell p ty, .tmp u]) (tmps : Array Value) (w : World) (g : Nat) (t : TypeId) (cs : Array Value) (fr : Nat × Nat) (d : TypeDesc)
    (hp : tmps.getD p undef = .pointer (some ⟨g, 0, none⟩)) (hg : w.heap[g]? = some (.cells cs t fr))
    (hu : P.underlying ty = some d) (hd : (match d with | .struct _ | .array _ _ => true | _ => false) = true) (hi : (P.info? ty).map (·.size) = some cs.size) :
    (results fn tmps).run P w = .ok (.tuple #[.agg cs, tmps.getD u undef]) w := by
  rw [results_cell_tmp h, hp]
  simp [asAddr, run_loadVar_row w g t ty cs fr d hg hu hd hi, Result.andThen]

theorem span_eq {q0 q1 q2 q3 q4 q5 q6 q7 q8 q9 q10 q11 : St} {v0 v1 v2 v5 v6 v7 : Int} {s3 s4 : ByteArray} {l8 : List S53} {l9 : List S55} {l10 : List S68} (h0 : numS q0 = (v0, q1)) (h1 : numS q1 = (v1, q2)) (h2 : numS q2 = (v2, q3)) (h3 : txtS q3 = (s3, q4)) (h4 : txtS q4 = (s4, q5))
    (h5 : sigS q5 = (v5, q6)) (h6 : sigS q6 = (v6, q7)) (h7 : sizeS 2 q7 = (v7, q8)) (h8 : someS attS q8 = (l8, q9)) (h9 : someS evS q9 = (l9, q10)) (h10 : someS lkS q10 = (l10, q11)) : spanS q0 = (⟨v0, v1, v2, s3, s4, v5, v6, v7, l8, l9, l10⟩, q11) := by
  unfold spanS tupS
  simp only [pr, h0, h1, h2, h3, h4, h5, h6, h7, h8, h9, h10]
  rfl
theorem cb11 {w : World} {g : Nat} {t : TypeId} {x0 x1 x2 x3 x4 x5 x6 x7 x8 x9 x10 : Value} (h : w.heap[g]? = some (.cells #[x0, x1, x2, x3, x4, x5, x6, x7, x8, x9, x10] t (0, 0))) :
    (w.cell? ⟨g, 0, none⟩ = some x0 ∧ w.cell? ⟨g, 1, none⟩ = some x1 ∧ w.cell? ⟨g, 2, none⟩ = some x2 ∧ w.cell? ⟨g, 3, none⟩ = some x3 ∧ w.cell? ⟨g, 4, none⟩ = some x4 ∧ w.cell? ⟨g, 5, none⟩ = some x5 ∧ w.cell? ⟨g, 6, none⟩ = some x6 ∧ w.cell? ⟨g, 7, none⟩ = some x7 ∧ w.cell? ⟨g, 8, none⟩ = some x8 ∧ w.cell? ⟨g, 9, none⟩ = some x9 ∧ w.cell? ⟨g, 10, none⟩ = some x10) ∧ ∀ i, w.frozen? ⟨g, i, none⟩ = false :=
  ⟨⟨(blk_cell h 0).trans rfl, (blk_cell h 1).trans rfl, (blk_cell h 2).trans rfl, (blk_cell h 3).trans rfl, (blk_cell h 4).trans rfl, (blk_cell h 5).trans rfl, (blk_cell h 6).trans rfl, (blk_cell h 7).trans rfl, (blk_cell h 8).trans rfl, (blk_cell h 9).trans rfl, (blk_cell h 10).trans rfl⟩, fun i => blk_frozen h i⟩
/-- An empty span's cells. -/
abbrev zc : Array Value := #[.int .u64 0, .int .u64 0, .int .u64 0, .string ⟨#[]⟩, .string ⟨#[]⟩, .int .i64 0, .int .i64 0, .int .i64 0, .slice none 0 0, .slice none 0 0, .slice none 0 0]
/-- FromBytes on its way: the reader (p), what is handed back (g), the span (ga). -/
structure FbS (W w : World) (p g ga : Nat) (q : St) (cs : Array Value) : Prop where
  rd : RdE w p q
  bw : Below W.heap.size W w
  out : w.heap[g]? = some (.cells zc 27 (0, 0))
  box : w.heap[ga]? = some (.cells cs 27 (0, 0))
  gp : g < p
  pa : p < ga
  g0 : W.heap.size ≤ g
theorem FbS.next {W w w' : World} {p g ga : Nat} {q q' : St} {cs : Array Value} (h : FbS W w p g ga q cs) (hr : RdE w' p q') (ht : Turn (RO p) w w') : FbS W w' p g ga q' cs :=
  ⟨hr, below_turn h.bw ht (fun k hk => by have := h.gp; have := h.g0; unfold RO at hk; omega), blk_turn ht h.out (by have := h.gp; unfold RO; omega), blk_turn ht h.box (by have := h.pa; unfold RO; omega), h.gp, h.pa, h.g0⟩
theorem FbS.set {W w : World} {p g ga : Nat} {q : St} {cs : Array Value} (h : FbS W w p g ga q cs) (i : Nat) (v : Value) : FbS W (w.setCell ⟨ga, i, none⟩ v) p g ga q (cs.setIfInBounds i v) := by
  have ht : Turn (RO ga) w (w.setCell ⟨ga, i, none⟩ v) := Turn.set w ga i v rfl
  have h1 := h.gp
  have h2 := h.pa
  have h3 := h.g0
  exact ⟨h.rd.keep h2 ht, below_turn h.bw ht (fun k hk => by unfold RO at hk; omega), blk_turn ht h.out (by unfold RO; omega), blk_set h.box i v, h1, h2, h3⟩
/-- Eleven cells of a box turned. -/
abbrev put11 (w : World) (g : Nat) (x0 x1 x2 x3 x4 x5 x6 x7 x8 x9 x10 : Value) : World := ((((((((((w.setCell ⟨g, 0, none⟩ x0).setCell ⟨g, 1, none⟩ x1).setCell ⟨g, 2, none⟩ x2).setCell ⟨g, 3, none⟩ x3).setCell ⟨g, 4, none⟩ x4).setCell ⟨g, 5, none⟩ x5).setCell ⟨g, 6, none⟩ x6).setCell ⟨g, 7, none⟩ x7).setCell ⟨g, 8, none⟩ x8).setCell ⟨g, 9, none⟩ x9).setCell ⟨g, 10, none⟩ x10
theorem put11_blk {w : World} {g : Nat} {t : TypeId} {y0 y1 y2 y3 y4 y5 y6 y7 y8 y9 y10 : Value} (h : w.heap[g]? = some (.cells #[y0, y1, y2, y3, y4, y5, y6, y7, y8, y9, y10] t (0, 0))) (x0 x1 x2 x3 x4 x5 x6 x7 x8 x9 x10 : Value) : (put11 w g x0 x1 x2 x3 x4 x5 x6 x7 x8 x9 x10).heap[g]? = some (.cells #[x0, x1, x2, x3, x4, x5, x6, x7, x8, x9, x10] t (0, 0)) := by
  have h' := (blk_set (blk_set (blk_set (blk_set (blk_set (blk_set (blk_set (blk_set (blk_set (blk_set (blk_set h 0 x0) 1 x1) 2 x2) 3 x3) 4 x4) 5 x5) 6 x6) 7 x7) 8 x8) 9 x9) 10 x10)
  simp only [List.setIfInBounds_toArray, List.set_cons_succ, List.set_cons_zero] at h'
  exact h'
theorem put11_turn (w : World) (g : Nat) (x0 x1 x2 x3 x4 x5 x6 x7 x8 x9 x10 : Value) : Turn (RO g) w (put11 w g x0 x1 x2 x3 x4 x5 x6 x7 x8 x9 x10) := ((((((((((Turn.set (O := RO g) w g 0 x0 rfl).trans (Turn.set (O := RO g) _ g 1 x1 rfl) (fun k hk => .inl hk)).trans (Turn.set (O := RO g) _ g 2 x2 rfl) (fun k hk => .inl hk)).trans (Turn.set (O := RO g) _ g 3 x3 rfl) (fun k hk => .inl hk)).trans (Turn.set (O := RO g) _ g 4 x4 rfl) (fun k hk => .inl hk)).trans (Turn.set (O := RO g) _ g 5 x5 rfl) (fun k hk => .inl hk)).trans (Turn.set (O := RO g) _ g 6 x6 rfl) (fun k hk => .inl hk)).trans (Turn.set (O := RO g) _ g 7 x7 rfl) (fun k hk => .inl hk)).trans (Turn.set (O := RO g) _ g 8 x8 rfl) (fun k hk => .inl hk)).trans (Turn.set (O := RO g) _ g 9 x9 rfl) (fun k hk => .inl hk)).trans (Turn.set (O := RO g) _ g 10 x10 rfl) (fun k hk => .inl hk)
/-- What FromBytes hands back. -/
def RetS (w' : World) (N : Nat) (e : Ending) (o : Option S27) : Prop :=
  match o with
  | some s => ∃ cs : List Value, e = .returned (.tuple #[.agg cs.toArray, .int .i64 0]) ∧ k27.M w' N (fun _ => True) s cs
  | none => e = .returned (.tuple #[.agg zc, .int .i64 5])
theorem RetS.no {w' : World} {N : Nat} : RetS w' N (.returned (.tuple #[.agg zc, .int .i64 5])) none := Eq.refl _
def MayP (x : S27) : Prop := HeadP x.f0 x.f1 x.f2 x.f3 x.f4 x.f5 x.f6 x.f7 ∧ BodyP x.f8 x.f9 x.f10
/-- Of what is left, and what was read: what is told. -/
def FinS (q : St) (s : S27) (o : Option S27) : Prop := (q.2 = false ∧ q.1 = [] ∧ MayP s ∧ o = some s) ∨ (¬ (q.2 = false ∧ q.1 = [] ∧ MayP s) ∧ o = none)
theorem FbS.fin {W w : World} {p g ga : Nat} {q : St} {cs : Array Value} (h : FbS W w p g ga q cs) (x0 x1 x2 x3 x4 x5 x6 x7 x8 x9 x10 : Value) :
    Below W.heap.size W (put11 w g x0 x1 x2 x3 x4 x5 x6 x7 x8 x9 x10) ∧ (put11 w g x0 x1 x2 x3 x4 x5 x6 x7 x8 x9 x10).heap[g]? = some (.cells #[x0, x1, x2, x3, x4, x5, x6, x7, x8, x9, x10] 27 (0, 0)) :=
  ⟨below_turn h.bw (put11_turn w g x0 x1 x2 x3 x4 x5 x6 x7 x8 x9 x10) (fun k hk => by have := h.g0; unfold RO at hk; omega), put11_blk h.out x0 x1 x2 x3 x4 x5 x6 x7 x8 x9 x10⟩
theorem FbS.drew {W w : World} {p g ga : Nat} {q : St} {cs : Array Value} (h : FbS W w p g ga q cs) : FbS W w.drew p g ga q cs := by
  refine ⟨?_, below_drew h.bw, h.out, h.box, h.gp, h.pa, h.g0⟩
  obtain ⟨A, c, hr⟩ := h.rd
  exact ⟨A, c, hr.turn (Turn.drew (Turn.refl (fun _ => False) w)) id (fun _ _ _ h => h)⟩
/-- A row that was handed back stays where other boxes turn. -/
theorem row_stay {w w1 : World} {N p : Nat} {A : Option Addr} {xs : List Int} (hC : Kd.C (Kd.int .u8) w A xs.length xs) (ho : 0 < xs.length → ∀ ad, A = some ad → N ≤ ad.block ∧ ad = ⟨ad.block, 0, none⟩) (ht : Turn (RO p) w w1) (hp : p < N) : Kd.C (Kd.int .u8) w1 A xs.length xs := by
  refine Ci_at hC fun h0 ad hA => ?_
  obtain ⟨ad', hA', hcc⟩ := C_src hC h0
  rw [hA] at hA'
  injection hA' with hA'
  subst hA'
  have hl' : 0 < (xs.map (Value.int .u8)).length := by rw [List.length_map]; exact h0
  have h3 := World.block_lt_of_cell? w _ (hcc 0 _ (List.getElem?_eq_getElem hl'))
  have e : (ad.add 0).block = ad.block := by unfold Addr.add; split <;> rfl
  rw [e] at h3
  have := (ho h0 ad hA).1
  exact ht.block _ h3 (by unfold RO; omega)
set_option maxHeartbeats 8000000 in
set_option maxRecDepth 100000 in
theorem from_calls {W : World} {A : Option Addr} {c : Nat} {l : List Int} (hr : Kd.C (Kd.int .u8) W A l.length l) (hc : l.length ≤ c) (hB : IsB l) (hl : l.length ≤ 1000000) (hT : Tabs W)
    {q1 q2 q3 q4 q5 q6 q7 q8 q9 q10 q11 : St} {v0 v1 v2 v5 v6 v7 : Int} {s3 s4 : ByteArray} {l8 : List S53} {l9 : List S55} {l10 : List S68} (h0 : numS (l, false) = (v0, q1)) (h1 : numS q1 = (v1, q2)) (h2 : numS q2 = (v2, q3)) (h3 : txtS q3 = (s3, q4)) (h4 : txtS q4 = (s4, q5))
    (h5 : sigS q5 = (v5, q6)) (h6 : sigS q6 = (v6, q7)) (h7 : sizeS 2 q7 = (v7, q8)) (h8 : someS attS q8 = (l8, q9)) (h9 : someS evS q9 = (l9, q10)) (h10 : someS lkS q10 = (l10, q11)) (hl8 : l8.length ≤ 1000000) :
    Calls Tryd.prog 14 #[.slice A l.length c] W fun e w' => ∃ o, FinS q11 ⟨v0, v1, v2, s3, s4, v5, v6, v7, l8, l9, l10⟩ o ∧ RetS w' W.heap.size e o ∧ Below W.heap.size W w' := by
  have HTB := Lib.hid hT
  have HL8 := Lib.hid hl8
  obtain ⟨g, hg⟩ : ∃ g, W.heap.size = g := ⟨_, rfl⟩
  have hb0 := below_alloc (Below.refl W.heap.size W) (.cells zc 27)
  have k0 := heap_alloc_new W (.cells zc 27)
  have hs0 : (W.alloc (.cells zc 27)).heap.size = g + 1 := by simp [hg]
  have hr1 := Kd.C_below hr hb0
  have hb1 := below_alloc hb0 (.cells #[.slice A l.length c, .bool false] 78)
  have k1 := heap_alloc_new (W.alloc (.cells zc 27)) (.cells #[.slice A l.length c, .bool false] 78)
  have k0' := block_below k0 (below_alloc (Below.refl _ _) (.cells #[.slice A l.length c, .bool false] 78))
  have hR : RdE ((W.alloc (.cells zc 27)).alloc (.cells #[.slice A l.length c, .bool false] 78)) (g + 1) (l, false) := by
    rw [hs0] at k1
    refine ⟨A, c, k1, hc, Kd.C_below hr hb1, fun hp ad hA => ?_, hB, hl⟩
    obtain ⟨ad', hA', hcc⟩ := C_src hr hp
    rw [hA] at hA'
    injection hA' with hA'
    subst hA'
    have hl' : 0 < (l.map (Value.int .u8)).length := by rw [List.length_map]; exact hp
    have h3 := World.block_lt_of_cell? W _ (hcc 0 _ (List.getElem?_eq_getElem hl'))
    have e : (ad.add 0).block = ad.block := by unfold Addr.add; split <;> rfl
    rw [e] at h3
    omega
  have HB1 := Lib.hid hb1
  rw [hg] at k0'
  obtain ⟨w1, hw1⟩ : ∃ w1, (W.alloc (.cells zc 27)).alloc (.cells #[.slice A l.length c, .bool false] 78) = w1 := ⟨_, rfl⟩
  rw [hw1] at hR HB1 k0'
  have HR := Lib.hid (rnum_calls hR)
  rw [h0] at HR
  have K0 := Lib.hid k0'
  have HG := Lib.hid hg
  have H1 := Lib.hid h1
  have H2 := Lib.hid h2
  have H3 := Lib.hid h3
  have H4 := Lib.hid h4
  have H5 := Lib.hid h5
  have H6 := Lib.hid h6
  have H7 := Lib.hid h7
  have H8 := Lib.hid h8
  have H9 := Lib.hid h9
  have H10 := Lib.hid h10
  clear hr hc hB hl hb0 k0 hr1 hb1 k1 k0' hR h0 h1 h2 h3 h4 h5 h6 h7 h8 h9 h10 hT hl8
  go_enter Tryd.func14, Tryd.ntmps14
  go_wp2_with fail
  refine HR.out.mono ?_
  rintro e w2 ⟨rfl, hr, ht⟩
  have HR2 := Lib.hid (rnum_calls hr)
  have HT2 := Lib.hid ht
  rw [H1.out] at HR2
  clear hr ht
  go_wp2_with fail
  refine HR2.out.mono ?_
  rintro e w3 ⟨rfl, hr, ht⟩
  have HR3 := Lib.hid (rnum_calls hr)
  have HT3 := Lib.hid (HT2.out.trans ht (fun k hk => .inl hk))
  rw [H2.out] at HR3
  clear hr ht
  go_wp2_with fail
  refine HR3.out.mono ?_
  rintro e w4 ⟨rfl, hr, ht⟩
  have HT4 := Lib.hid (HT3.out.trans ht (fun k hk => .inl hk))
  have HR4 := Lib.hid hr
  clear hr ht
  obtain ⟨ga, hga⟩ : ∃ ga, w4.heap.size = ga := ⟨_, rfl⟩
  have hF : FbS W (w4.alloc (.cells #[.int .u64 v0, .int .u64 v1, .int .u64 v2, .string ⟨#[]⟩, .string ⟨#[]⟩, .int .i64 0, .int .i64 0, .int .i64 0, .slice none 0 0, .slice none 0 0, .slice none 0 0] 27)) (g + 1) g ga q3 #[.int .u64 v0, .int .u64 v1, .int .u64 v2, .string ⟨#[]⟩, .string ⟨#[]⟩, .int .i64 0, .int .i64 0, .int .i64 0, .slice none 0 0, .slice none 0 0, .slice none 0 0] := by
    have hp := HR4.out
    obtain ⟨A', c', hp⟩ := hp
    have hlt := blk_lt hp.blk
    have hb4 := below_turn HB1.out HT4.out (fun k hk => by unfold RO at hk; omega)
    have hba := below_alloc (Below.refl w4.heap.size w4) (.cells #[.int .u64 v0, .int .u64 v1, .int .u64 v2, .string ⟨#[]⟩, .string ⟨#[]⟩, .int .i64 0, .int .i64 0, .int .i64 0, .slice none 0 0, .slice none 0 0, .slice none 0 0] 27)
    have hk := heap_alloc_new w4 (.cells #[.int .u64 v0, .int .u64 v1, .int .u64 v2, .string ⟨#[]⟩, .string ⟨#[]⟩, .int .i64 0, .int .i64 0, .int .i64 0, .slice none 0 0, .slice none 0 0, .slice none 0 0] 27)
    rw [hga] at hk
    exact ⟨⟨A', c', hp.below hba⟩, below_step hb4 hba, block_below (blk_turn HT4.out K0.out (by unfold RO; omega)) hba, hk, by omega, by omega, by omega⟩
  have HF := Lib.hid hF
  clear hF
  go_upto_region 3 with (fail)
  obtain ⟨w5, hw5⟩ : ∃ w5, w4.alloc (.cells #[.int .u64 v0, .int .u64 v1, .int .u64 v2, .string ⟨#[]⟩, .string ⟨#[]⟩, .int .i64 0, .int .i64 0, .int .i64 0, .slice none 0 0, .slice none 0 0, .slice none 0 0] 27) = w5 := ⟨_, rfl⟩
  rw [hw5] at HF ⊢
  have HF1 := Lib.hid HF.out.drew
  have HP3 := Lib.hid (show strOfNums (rowS q3).1 = s3 ∧ (rowS q3).2 = q4 from ⟨congrArg Prod.fst H3.out, congrArg Prod.snd H3.out⟩)
  have HP4 := Lib.hid (show strOfNums (rowS q4).1 = s4 ∧ (rowS q4).2 = q5 from ⟨congrArg Prod.fst H4.out, congrArg Prod.snd H4.out⟩)
  go_cut [] from 16 to 23 (fun wq => Hid (FbS W wq (g + 1) g ga q5 #[.int .u64 v0, .int .u64 v1, .int .u64 v2, .string s3, .string s4, .int .i64 0, .int .i64 0, .int .i64 0, .slice none 0 0, .slice none 0 0, .slice none 0 0]))
  case first =>
    go_region_with (first
      | (refine (rrow_calls HF1.out.rd).mono ?_
         rintro e w6 ⟨u, rfl, ⟨A6, c6, rfl, hc6, hC6, ho6⟩, hr, ht⟩
         rw [HP3.out.2] at hr
         have HF6 := Lib.hid (HF1.out.next hr ht)
         have HC6 := Lib.hid hC6
         have HO6 := Lib.hid ho6
         have ks6 := run_str (c := c6) hC6
         rw [HP3.out.1] at ks6
         clear hr ht hC6 ho6 hc6)
      | (refine (rrow_calls HF6.out.rd).mono ?_
         rintro e w7 ⟨u, rfl, ⟨A7, c7, rfl, hc7, hC7, ho7⟩, hr, ht⟩
         rw [HP4.out.2] at hr
         have HF7 := Lib.hid (HF6.out.next hr ht)
         have ks7 := run_str (c := c6) (row_stay HC6.out HO6.out ht (blk_lt HF1.out.rd.choose_spec.choose_spec.blk))
         rw [HP3.out.1] at ks7
         have ks9 := run_str (c := c7) hC7
         rw [HP4.out.1] at ks9
         have ks8 := run_str (c := c7) (row_stay hC7 ho7 (Turn.set (O := RO ga) w7 ga 3 (.string s3) rfl) (blk_lt HF6.out.box))
         rw [HP4.out.1] at ks8
         have HF8 := Lib.hid (HF7.out.set 3 (.string s3))
         have HF9 := Lib.hid (HF8.out.set 4 (.string s4))
         obtain ⟨⟨_, _, _, m3, m4, _⟩, mf⟩ := cb11 HF7.out.box
         have mf3 := mf 3
         have mf4 := mf 4
         have n4 := blk_frozen HF8.out.box 4
         clear hr ht hC7 ho7 hc7 mf)
      | fail)
    all_goals
      go_step
      apply_assumption
      refine Met.intro ?_
      apply_assumption
      (repeat apply Exists.intro)
      exact ⟨HF9, rfl⟩
  case rest =>
  apply_assumption
  clear HF HF1 HP3 HP4 H1 H2 H3 H4 HR HR2 HR3 HR4 HT2 HT3 HT4 HB1 K0
  have HF := hcut
  clear hcut
  have HR := Lib.hid (rsig_calls HF.out.rd)
  rw [H5.out] at HR
  go_wp2_with fail
  refine HR.out.mono ?_
  rintro e w6 ⟨rfl, hr, ht⟩
  have HF6 := Lib.hid (HF.out.next hr ht)
  have HR := Lib.hid (rsig_calls HF6.out.rd)
  rw [H6.out] at HR
  clear hr ht HF
  go_wp2_with fail
  refine HR.out.mono ?_
  rintro e w7 ⟨rfl, hr, ht⟩
  have HF7 := Lib.hid (HF6.out.next hr ht)
  obtain ⟨mm, mf⟩ := cb11 HF7.out.box
  have m5 := mm.2.2.2.2.2.1
  have m6 := mm.2.2.2.2.2.2.1
  have mf5 := mf 5
  have mf6 := mf 6
  have HF8 := Lib.hid ((HF7.out.set 5 (.int .i64 v5)).set 6 (.int .i64 v6))
  have HR := Lib.hid (rsize_calls HF8.out.rd (most := 2) (by decide) (by decide))
  rw [H7.out] at HR
  clear hr ht HF6 mm mf
  go_wp2_with fail
  refine HR.out.mono ?_
  rintro e w8 ⟨rfl, hr, ht⟩
  have HF9 := Lib.hid (HF8.out.next hr ht)
  have HF10 := Lib.hid (HF9.out.set 7 (.int .i64 v7))
  obtain ⟨mm, mf⟩ := cb11 HF9.out.box
  have m7 := mm.2.2.2.2.2.2.2.1
  have mf7 := mf 7
  have HR := Lib.hid (some_at HF10.out.rd)
  rw [H8.out] at HR
  have HZ := Lib.hid (blk_lt HF10.out.box)
  clear hr ht HF8 mm mf HF7 m5 m6 mf5 mf6
  go_wp2_with fail
  refine HR.out.mono ?_
  rintro e w11 ⟨_, rfl, ho, hr, ht⟩
  obtain ⟨A8, c8, rfl⟩ := Kd.R_slice ho
  have HF11 := Lib.hid (HF10.out.next hr ht)
  have HO8 := Lib.hid (Kd.R_lower (base' := ga + 1) ho HZ.out)
  obtain ⟨mm, mf⟩ := cb11 HF11.out.box
  have m8 := mm.2.2.2.2.2.2.2.2.1
  have mf8 := mf 8
  have HF12 := Lib.hid (HF11.out.set 8 (.slice A8 l8.length c8))
  have HO8 := Lib.hid (R_box (fun {_ _ _ _ _ _} => flat_at) HO8.out (Turn.set (O := RO ga) w11 ga 8 (.slice A8 l8.length c8) rfl) (Nat.lt_succ_self _))
  have HR := Lib.hid (some_ev HF12.out.rd)
  rw [H9.out] at HR
  have HZ := Lib.hid (blk_lt HF12.out.box)
  clear hr ht ho mm mf HF9 HF10 m7 mf7 HF11
  go_wp2_with fail
  refine HR.out.mono ?_
  rintro e w13 ⟨_, rfl, ho, hr, ht⟩
  obtain ⟨A9, c9, rfl⟩ := Kd.R_slice ho
  have HF13 := Lib.hid (HF12.out.next hr ht)
  have HPA := Lib.hid (show g + 1 < ga + 1 by have := HF12.out.pa; omega)
  have HO8 := Lib.hid (R_box (fun {_ _ _ _ _ _} => flat_at) HO8.out ht HPA.out)
  have HO9 := Lib.hid (Kd.R_lower (base' := ga + 1) ho HZ.out)
  obtain ⟨mm, mf⟩ := cb11 HF13.out.box
  have m9 := mm.2.2.2.2.2.2.2.2.2.1
  have mf9 := mf 9
  have HF14 := Lib.hid (HF13.out.set 9 (.slice A9 l9.length c9))
  have HO8 := Lib.hid (R_box (fun {_ _ _ _ _ _} => flat_at) HO8.out (Turn.set (O := RO ga) w13 ga 9 (.slice A9 l9.length c9) rfl) (Nat.lt_succ_self _))
  have HO9 := Lib.hid (R_box (fun {_ _ _ _ _ _} => flat_ev) HO9.out (Turn.set (O := RO ga) w13 ga 9 (.slice A9 l9.length c9) rfl) (Nat.lt_succ_self _))
  have HR := Lib.hid (some_lk HF14.out.rd)
  rw [H10.out] at HR
  have HZ := Lib.hid (blk_lt HF14.out.box)
  clear hr ht ho mm mf HF12 HF13 m8 mf8
  go_wp2_with fail
  refine HR.out.mono ?_
  rintro e w15 ⟨_, rfl, ho, hr, ht⟩
  obtain ⟨A10, c10, rfl⟩ := Kd.R_slice ho
  have HF15 := Lib.hid (HF14.out.next hr ht)
  have HO8 := Lib.hid (R_box (fun {_ _ _ _ _ _} => flat_at) HO8.out ht HPA.out)
  have HO9 := Lib.hid (R_box (fun {_ _ _ _ _ _} => flat_ev) HO9.out ht HPA.out)
  have HO10 := Lib.hid (Kd.R_lower (base' := ga + 1) ho HZ.out)
  obtain ⟨mm, mf⟩ := cb11 HF15.out.box
  have m10 := mm.2.2.2.2.2.2.2.2.2.2
  have mf10 := mf 10
  have HF16 := Lib.hid (HF15.out.set 10 (.slice A10 l10.length c10))
  have HO8 := Lib.hid (R_box (fun {_ _ _ _ _ _} => flat_at) HO8.out (Turn.set (O := RO ga) w15 ga 10 (.slice A10 l10.length c10) rfl) (Nat.lt_succ_self _))
  have HO9 := Lib.hid (R_box (fun {_ _ _ _ _ _} => flat_ev) HO9.out (Turn.set (O := RO ga) w15 ga 10 (.slice A10 l10.length c10) rfl) (Nat.lt_succ_self _))
  have HO10 := Lib.hid (R_box (fun {_ _ _ _ _ _} => flat_lk) HO10.out (Turn.set (O := RO ga) w15 ga 10 (.slice A10 l10.length c10) rfl) (Nat.lt_succ_self _))
  clear hr ht ho mm mf HF14 m9 mf9
  go_upto_region 9 with (fail)
  have HB16 := Lib.hid (show FbS W (w15.setCell ⟨ga, 10, none⟩ (.slice A10 l10.length c10)) (g + 1) g ga q11 #[.int .u64 v0, .int .u64 v1, .int .u64 v2, .string s3, .string s4, .int .i64 v5, .int .i64 v6, .int .i64 v7, .slice A8 l8.length c8, .slice A9 l9.length c9, .slice A10 l10.length c10] from HF16.out)
  obtain ⟨w16, hw16⟩ : ∃ w16, w15.setCell ⟨ga, 10, none⟩ (.slice A10 l10.length c10) = w16 := ⟨_, rfl⟩
  rw [hw16] at HB16 HO8 HO9 HO10 ⊢
  obtain ⟨l11, b11⟩ := q11
  obtain ⟨A', c', hrd⟩ := id HB16.out.rd
  have r0 : w16.cell? ⟨g + 1, 0, none⟩ = some (.slice A' l11.length c') := (blk_cell hrd.blk 0).trans rfl
  have r1 : w16.cell? ⟨g + 1, 1, none⟩ = some (.bool b11) := (blk_cell hrd.blk 1).trans rfl
  obtain ⟨⟨x0, x1, x2, x3, x4, x5, x6, x7, x8, x9, x10⟩, xf⟩ := cb11 HB16.out.box
  obtain ⟨⟨y0, y1, y2, y3, y4, y5, y6, y7, y8, y9, y10⟩, yf⟩ := cb11 HB16.out.out
  have f0 := yf 0
  have f1 := yf 1
  have f2 := yf 2
  have f3 := yf 3
  have f4 := yf 4
  have f5 := yf 5
  have f6 := yf 6
  have f7 := yf 7
  have f8 := yf 8
  have f9 := yf 9
  have f10 := yf 10
  have HI := Lib.hid (show (Tryd.prog.info? 27).map (·.size) = some 11 by kernel_rfl)
  clear hrd xf yf hw16 HF16 m10 mf10 HF15
  cases b11 with
  | true =>
    have HFF := Lib.hid (HB16.out.fin (.int .u64 0) (.int .u64 0) (.int .u64 0) (.string ⟨#[]⟩) (.string ⟨#[]⟩) (.int .i64 0) (.int .i64 0) (.int .i64 0) (.slice none 0 0) (.slice none 0 0) (.slice none 0 0))
    go_wp2
    exact bodyPost_ret (v := .tuple _) (results_row_tmp rfl _ _ g 27 _ (0, 0) _ rfl HFF.out.2 Tryd.underlying27 rfl HI.out) rfl ⟨none, .inr ⟨fun h => (by cases h.1), rfl⟩, RetS.no, HFF.out.1⟩
  | false =>
    by_cases hl0 : l11 = []
    · subst hl0
      have hC8 := Kd.R_reads' HO8.out
      have hC9 := Kd.R_reads' HO9.out
      have hC10 := Kd.R_reads' HO10.out
      obtain ⟨r, hrm, him⟩ := span_may (l8.length + 2) v0 v1 v2 s3 s4 v5 v6 v7 l8 l9 l10 (by have := HL8.out; omega) (by omega)
      have HM := Lib.hid (span_May.calls (l8.length + 2) v0 v1 v2 s3 s4 v5 v6 v7 A8 c8 l8 A9 c9 l9 A10 c10 l10 r w16 hC8.2.2 hC8.2.1 hC9.2.2 hC9.2.1 hC10.2.2 hC10.2.1 hrm (tabs_below HTB.out HB16.out.bw))
      have HIM := Lib.hid him
      clear hC8 hC9 hC10 hrm him
      go_wp2_with fail
      refine HM.out.mono ?_
      rintro e w17 ⟨rfl, hb⟩
      have HB17 := Lib.hid (show FbS W w17 (g + 1) g ga ([], false) #[.int .u64 v0, .int .u64 v1, .int .u64 v2, .string s3, .string s4, .int .i64 v5, .int .i64 v6, .int .i64 v7, .slice A8 l8.length c8, .slice A9 l9.length c9, .slice A10 l10.length c10] from HB16.out.next (by obtain ⟨A2, c2, h2⟩ := HB16.out.rd; exact ⟨A2, c2, h2.below hb⟩) (Turn.of_below hb))
      have HO8 := Lib.hid (Kd.R_below HO8.out hb)
      have HO9 := Lib.hid (Kd.R_below HO9.out hb)
      have HO10 := Lib.hid (Kd.R_below HO10.out hb)
      clear hb x0 x1 x2 x3 x4 x5 x6 x7 x8 x9 x10 y0 y1 y2 y3 y4 y5 y6 y7 y8 y9 y10 f0 f1 f2 f3 f4 f5 f6 f7 f8 f9 f10 r0 r1
      obtain ⟨⟨x0, x1, x2, x3, x4, x5, x6, x7, x8, x9, x10⟩, xf⟩ := cb11 HB17.out.box
      obtain ⟨⟨y0, y1, y2, y3, y4, y5, y6, y7, y8, y9, y10⟩, yf⟩ := cb11 HB17.out.out
      have f0 := yf 0
      have f1 := yf 1
      have f2 := yf 2
      have f3 := yf 3
      have f4 := yf 4
      have f5 := yf 5
      have f6 := yf 6
      have f7 := yf 7
      have f8 := yf 8
      have f9 := yf 9
      have f10 := yf 10
      cases r with
      | false =>
        have HN := Lib.hid (show ¬ (HeadP v0 v1 v2 s3 s4 v5 v6 v7 ∧ BodyP l8 l9 l10) from fun h => by have := HIM.out.2 h; cases this)
        clear xf yf HIM
        have HFF := Lib.hid (HB17.out.fin (.int .u64 0) (.int .u64 0) (.int .u64 0) (.string ⟨#[]⟩) (.string ⟨#[]⟩) (.int .i64 0) (.int .i64 0) (.int .i64 0) (.slice none 0 0) (.slice none 0 0) (.slice none 0 0))
        go_wp2
        exact bodyPost_ret (v := .tuple _) (results_row_tmp rfl _ _ g 27 _ (0, 0) _ rfl HFF.out.2 Tryd.underlying27 rfl HI.out) rfl ⟨none, .inr ⟨fun h => HN.out h.2.2, rfl⟩, RetS.no, HFF.out.1⟩
      | true =>
        have HY := Lib.hid (HIM.out.1 rfl)
        clear xf yf HIM
        have HFF := Lib.hid (HB17.out.fin (.int .u64 v0) (.int .u64 v1) (.int .u64 v2) (.string s3) (.string s4) (.int .i64 v5) (.int .i64 v6) (.int .i64 v7) (.slice A8 l8.length c8) (.slice A9 l9.length c9) (.slice A10 l10.length c10))
        have hz := put11_turn w17 g (.int .u64 v0) (.int .u64 v1) (.int .u64 v2) (.string s3) (.string s4) (.int .i64 v5) (.int .i64 v6) (.int .i64 v7) (.slice A8 l8.length c8) (.slice A9 l9.length c9) (.slice A10 l10.length c10)
        have hga : g < ga + 1 := by have := HB17.out.gp; have := HB17.out.pa; omega
        have hW : W.heap.size ≤ ga + 1 := by have := HB17.out.g0; omega
        have HMM := Lib.hid (k27_mkM _ W.heap.size (fun _ => True) ⟨v0, v1, v2, s3, s4, v5, v6, v7, l8, l9, l10⟩ (Kd.R_lower (R_box (fun {_ _ _ _ _ _} => flat_at) HO8.out hz hga) hW) (Kd.R_lower (R_box (fun {_ _ _ _ _ _} => flat_ev) HO9.out hz hga) hW) (Kd.R_lower (R_box (fun {_ _ _ _ _ _} => flat_lk) HO10.out hz hga) hW))
        clear hz hga hW
        go_wp2
        exact bodyPost_ret (v := .tuple _) (results_row_tmp rfl _ _ g 27 _ (0, 0) _ rfl HFF.out.2 Tryd.underlying27 rfl HI.out) rfl ⟨some _, .inl ⟨rfl, rfl, HY.out, rfl⟩, ⟨_, rfl, HMM.out⟩, HFF.out.1⟩
    · have HNL := Lib.hid hl0
      have hp : 0 < l11.length := List.length_pos_iff.2 hl0
      have d1 : decide ((l11.length : Int) > 0) = true := decide_eq_true (by omega)
      have d2 : decide (0 < (l11.length : Int)) = true := decide_eq_true (by omega)
      have d3 : decide (0 < l11.length) = true := decide_eq_true hp
      clear hl0 hp
      have HFF := Lib.hid (HB16.out.fin (.int .u64 0) (.int .u64 0) (.int .u64 0) (.string ⟨#[]⟩) (.string ⟨#[]⟩) (.int .i64 0) (.int .i64 0) (.int .i64 0) (.slice none 0 0) (.slice none 0 0) (.slice none 0 0))
      go_wp2
      exact bodyPost_ret (v := .tuple _) (results_row_tmp rfl _ _ g 27 _ (0, 0) _ rfl HFF.out.2 Tryd.underlying27 rfl HI.out) rfl ⟨none, .inr ⟨fun h => HNL.out h.2.1, rfl⟩, RetS.no, HFF.out.1⟩
end Go.Proofs.YtkgpnfjmahjlcaaDoor.Wi

namespace Go.Proofs.YtkgpnfjmahjlcaaDoor.Wi
open Go.RowKit Go.Proofs.YtkgpnfjmahjlcaaDoorW.PrintWords Go.Proofs.YtkgpnfjmahjlcaaDoorW.PrintLast Go.Proofs.YtkgpnfjmahjlcaaDoorW.PrintMore Go.Proofs.YtkgpnfjmahjlcaaDoor.Math Go.Proofs.YtkgpnfjmahjlcaaDoor.PAll Go.Proofs.YtkgpnfjmahjlcaaDoor.NumFacts Go.Proofs.YtkgpnfjmahjlcaaDoor.Pure Go.Proofs.YtkgpnfjmahjlcaaDoor.Span Go.Proofs.YtkgpnfjmahjlcaaDoor.Runes Go.Proofs.YtkgpnfjmahjlcaaDoor.Text
set_option linter.unusedVariables false
set_option linter.unusedSimpArgs false
theorem attrs_each (A : List S53) : ∀ (n i : Nat), attrsOk A n i = true → ∀ j, i ≤ j → j < i + n → nameB (at_ A j).f0 = true ∧ mvA (at_ A j) = true ∧ ordA A j = true
  | 0, i, _, j, h1, h2 => by omega
  | n + 1, i, h, j, h1, h2 => by
    unfold attrsOk at h
    cases a : nameB (at_ A i).f0 with
    | false => rw [a] at h; cases h
    | true =>
      cases b : mvA (at_ A i) with
      | false => rw [a, b] at h; cases h
      | true =>
        cases c : ordA A i with
        | false => rw [a, b, c] at h; cases h
        | true =>
          rw [a, b, c] at h
          rcases Nat.lt_or_ge i j with hj | hj
          · exact attrs_each A n (i + 1) h j (by omega) (by omega)
          · obtain rfl : i = j := by omega
            exact ⟨a, b, c⟩
theorem mv_size {k : Int} {t : ByteArray} {n : Int} {v : Bool} (hm : mvB k t n v = true) : t.size ≤ 200 := by
  unfold mvB at hm
  rw [Bool.and_eq_true, Bool.and_eq_true, decide_eq_true_iff] at hm
  have := hm.2.1
  omega
theorem body_texts {A : List S53} {E : List S55} {L : List S68} (h : BodyP A E L) : ∀ a ∈ A, a.f1.f1.size ≤ 200 ∧ nameB a.f0 = true := by
  intro a ha
  obtain ⟨j, hj, rfl⟩ := List.getElem_of_mem ha
  obtain ⟨h1, h2, _⟩ := attrs_each A A.length 0 h.1 j (by omega) (by omega)
  have e : at_ A j = A[j] := by
    unfold at_
    rw [List.getD_eq_getElem?_getD, List.getElem?_eq_getElem hj]
    rfl
  rw [e] at h1 h2
  exact ⟨mv_size h2, h1⟩

/-- What the types of a span's numbers let in. -/
structure Rng (x : S27) : Prop where
  a : u64 x.f0
  b : u64 x.f1
  c : u64 x.f2
  f : i64 x.f5
  g : i64 x.f6
  i : ∀ y ∈ x.f8, i64 y.f1.f2
  j : ∀ y ∈ x.f9, i64 y.f0
  k : ∀ y ∈ x.f10, u64 y.f0 ∧ u64 y.f1
theorem bare_ok {v : S51} (h : mvB v.f0 v.f1 v.f2 v.f3 = true) (hn : i64 v.f2) : valOk v ∧ v.f0 ≤ 2 := by
  obtain ⟨k, s, n, b⟩ := v
  have hs := mv_size h
  unfold mvB at h
  rw [Bool.and_eq_true] at h
  have h1 := h.1
  unfold bareB at h1
  have hnil : ∀ s : ByteArray, s.toList = ([] : List UInt8) → s = ⟨#[]⟩ := fun s h => nil_of s h
  by_cases h0 : k = 0
  · rw [if_pos h0, Bool.and_eq_true] at h1
    have e1 : n = 0 := beq_iff_eq.1 h1.1
    have e2 : b = false := by cases b with | false => rfl | true => cases h1.2
    exact ⟨⟨by show 0 ≤ k; omega, by show k < 256; omega, by show (s.size : Int) < _; have : s.size ≤ 200 := hs; omega, hn, fun h => absurd h0 h, fun _ => e1, fun _ => e2⟩, by show k ≤ 2; omega⟩
  rw [if_neg h0] at h1
  by_cases h2 : k = 1
  · rw [if_pos h2, Bool.and_eq_true] at h1
    have e1 : s = ⟨#[]⟩ := hnil s (beq_iff_eq.1 h1.1)
    have e2 : b = false := by cases b with | false => rfl | true => cases h1.2
    exact ⟨⟨by show 0 ≤ k; omega, by show k < 256; omega, by show (s.size : Int) < _; have : s.size ≤ 200 := hs; omega, hn, fun _ => e1, fun h => absurd h2 h, fun _ => e2⟩, by show k ≤ 2; omega⟩
  rw [if_neg h2] at h1
  by_cases h3 : k = 2
  · rw [if_pos h3, Bool.and_eq_true] at h1
    have e1 : s = ⟨#[]⟩ := hnil s (beq_iff_eq.1 h1.1)
    have e2 : n = 0 := beq_iff_eq.1 h1.2
    exact ⟨⟨by show 0 ≤ k; omega, by show k < 256; omega, by show (s.size : Int) < _; have : s.size ≤ 200 := hs; omega, hn, fun _ => e1, fun _ => e2, fun h => by rcases h with h | h; exact absurd h h0; exact absurd h h2⟩, by show k ≤ 2; omega⟩
  rw [if_neg h3] at h1
  cases h1
theorem any_false {α : Type} {f : α → Bool} {l : List α} (h : l.any f = false) : ∀ x ∈ l, f x = false := by
  intro x hx
  cases hf : f x with
  | false => rfl
  | true => rw [List.any_eq_true.2 ⟨x, hx, hf⟩] at h; cases h
theorem ev_ok {e : S55} (h : evBad e = false) : timeB e.f0 = true ∧ nameB e.f1 = true := by
  unfold evBad at h
  cases a : timeB e.f0 <;> cases b : nameB e.f1 <;> simp_all
theorem may_ok {x : S27} (hr : Rng x) (hm : MayP x) : SpOk x := by
  obtain ⟨⟨m1, m2, m3, m4, m5, m6, m7, m8, m9⟩, hb⟩ := hm
  obtain ⟨b1, b2, b3, b4, b5, b6⟩ := id hb
  have hn : ∀ s : ByteArray, nameB s = true → txtOk s := fun s h => by have := name_size s h; unfold txtOk; omega
  refine ⟨hr.a, hr.b, hr.c, hn _ m4, hn _ m5, hr.f, hr.g, ⟨m8, m9⟩, ⟨by omega, fun y hy => ?_⟩, ⟨by omega, fun y hy => ?_⟩, ⟨by omega, fun y hy => hr.k y hy⟩⟩
  · obtain ⟨j, hj, rfl⟩ := List.getElem_of_mem hy
    obtain ⟨h1, h2, _⟩ := attrs_each x.f8 x.f8.length 0 b1 j (by omega) (by omega)
    have e : at_ x.f8 j = x.f8[j] := by
      unfold at_
      rw [List.getD_eq_getElem?_getD, List.getElem?_eq_getElem hj]
      rfl
    rw [e] at h1 h2
    exact ⟨hn _ h1, (bare_ok h2 (hr.i _ (List.getElem_mem hj))).1⟩
  · exact ⟨hr.j y hy, hn _ (ev_ok (any_false b5 y hy)).2⟩
theorem vput_le {v : Int} (h : u64 v) : (vput v).length ≤ 10 := vput_len10 h.2
theorem zput_le {v : Int} (h : i64 v) : (vput (zig v)).length ≤ 10 := vput_len10 (zig_bounds h.1 h.2).2
theorem txt_le {s : ByteArray} {n : Nat} (h : s.size ≤ n) (hn : n ≤ 1000) : (txtE s).length ≤ 10 + n := by
  unfold txtE rowE
  rw [List.length_append, bytesOf_length]
  have := vput_len10 (v := (s.size : Int)) (by omega)
  omega
theorem flat_max {α : Type} {e : α → List Int} {m : Nat} : ∀ {l : List α}, (∀ x ∈ l, (e x).length ≤ m) → (l.flatMap e).length ≤ l.length * m
  | [], _ => by simp
  | x :: l, h => by
    rw [List.flatMap_cons, List.length_append, List.length_cons, Nat.add_mul]
    have := h x (by simp)
    have := flat_max (l := l) (fun y hy => h y (by simp [hy]))
    omega
theorem list_max {α : Type} {e : α → List Int} {m : Nat} {l : List α} (hl : (l.length : Int) ≤ 16) (hm : m ≤ 1000) (h : ∀ x ∈ l, (e x).length ≤ m) : (listE e l).length ≤ 10 + 16 * m := by
  unfold listE
  rw [List.length_append]
  have h1 := vput_len10 (v := (l.length : Int)) (by omega)
  have h2 := flat_max h
  have h3 : l.length * m ≤ 16 * m := Nat.mul_le_mul_right m (by omega)
  omega
/-- A span that may be has few bytes. -/
theorem enc_len {x : S27} (ho : SpOk x) (hm : MayP x) : (enc x).length ≤ 10000 := by
  obtain ⟨⟨m1, m2, m3, m4, m5, m6, m7, m8, m9⟩, hb⟩ := hm
  obtain ⟨b1, b2, b3, b4, b5, b6⟩ := id hb
  have h1 := vput_le ho.a
  have h2 := vput_le ho.b
  have h3 := vput_le ho.c
  have h4 := txt_le (name_size _ m4) (by decide)
  have h5 := txt_le (name_size _ m5) (by decide)
  have h6 := zput_le ho.f
  have h7 := zput_le ho.g
  have h8 := vput_len10 (v := x.f7) (by have := ho.h; omega)
  have h9 := list_max (e := attE) (m := 300) b2 (by decide) (fun y hy => by
    obtain ⟨ht, hv⟩ := ho.i.2 y hy
    obtain ⟨hs, hn⟩ := body_texts hb y hy
    have k1 := txt_le (name_size _ hn) (by decide)
    have k2 : (valE y.f1).length ≤ 210 := by
      unfold valE
      split
      · exact txt_le hs (by decide)
      split
      · have := zput_le hv.2.2.2.1; omega
      · simp
    unfold attE
    simp only [List.length_append, List.length_cons, List.length_nil]
    omega)
  have h10 := list_max (e := evE) (m := 60) b3 (by decide) (fun y hy => by
    have k1 := zput_le (ho.j.2 y hy).1
    have k2 := txt_le (name_size _ (ev_ok (any_false b5 y hy)).2) (by decide)
    unfold evE
    rw [List.length_append]
    omega)
  have h11 := list_max (e := lkE) (m := 20) b4 (by decide) (fun y hy => by
    have k1 := vput_le (ho.k.2 y hy).1
    have k2 := vput_le (ho.k.2 y hy).2
    unfold lkE
    rw [List.length_append]
    omega)
  unfold enc
  simp only [List.length_append]
  omega
end Go.Proofs.YtkgpnfjmahjlcaaDoor.Wi

namespace Go.Proofs.YtkgpnfjmahjlcaaDoor.Wi
open Go.RowKit Go.Proofs.YtkgpnfjmahjlcaaDoorW.PrintWords Go.Proofs.YtkgpnfjmahjlcaaDoorW.PrintLast Go.Proofs.YtkgpnfjmahjlcaaDoorW.PrintMore Go.Proofs.YtkgpnfjmahjlcaaDoor.Math Go.Proofs.YtkgpnfjmahjlcaaDoor.PAll Go.Proofs.YtkgpnfjmahjlcaaDoor.NumFacts Go.Proofs.YtkgpnfjmahjlcaaDoor.Pure Go.Proofs.YtkgpnfjmahjlcaaDoor.Span Go.Proofs.YtkgpnfjmahjlcaaDoor.Runes Go.Proofs.YtkgpnfjmahjlcaaDoor.Text
set_option linter.unusedVariables false
set_option linter.unusedSimpArgs false
/-- No two at one place differ. -/
def allSame {α : Type} (ne : α → α → Bool) : List α → List α → Bool
  | x :: t, y :: u => if ne x y = true then false else allSame ne t u
  | _, _ => true
def neA (x y : S53) : Bool := (!(x.f0.toList == y.f0.toList)) || ((!(x.f1.f0 == y.f1.f0)) || ((!(x.f1.f1.toList == y.f1.f1.toList)) || ((!(x.f1.f2 == y.f1.f2)) || (!(x.f1.f3 == y.f1.f3)))))
def neE (x y : S55) : Bool := (!(x.f0 == y.f0)) || (!(x.f1.toList == y.f1.toList))
def neL (x y : S68) : Bool := (!(x.f0 == y.f0)) || (!(x.f1 == y.f1))
def sameA (l m : List S53) : Bool := decide ((l.length : Int) = (m.length : Int)) && allSame neA l m
def sameE (l m : List S55) : Bool := decide ((l.length : Int) = (m.length : Int)) && allSame neE l m
def sameL (l m : List S68) : Bool := decide ((l.length : Int) = (m.length : Int)) && allSame neL l m
theorem refL_l (a b c : Int) (s o : ByteArray) (d e f : Int) (A : List S53) (E : List S55) (L : List S68) (a' b' c' : Int) (s' o' : ByteArray) (d' e' f' : Int) (A' : List S53) (E' : List S55) (L' : List S68) (hL : L.length ≤ 140737488351232) (hl : L.length = L'.length) (n : Nat) : ∀ (k i : Nat), L.length - i ≤ n → n < k →
    cambiumref16_Same.l2 k (i : Int) a b c s o d e f A E L a' b' c' s' o' d' e' f' A' E' L' = some (allSame neL (L.drop i) (L'.drop i)) := by
  have hend : ∀ (k i : Nat), ¬ i < L.length → 0 ≤ k → cambiumref16_Same.l2 (k + 1) (i : Int) a b c s o d e f A E L a' b' c' s' o' d' e' f' A' E' L' = some (allSame neL (L.drop i) (L'.drop i)) := by
    intro k i h hk
    rw [cambiumref16_Same.l2, if_neg (by omega), List.drop_eq_nil_of_le (by omega)]
    rfl
  induction n with
  | zero =>
    intro k i h hk
    obtain ⟨k, rfl⟩ : ∃ j, k = j + 1 := ⟨k - 1, by omega⟩
    exact hend k i (by omega) (by omega)
  | succ n ih =>
    intro k i h hk
    obtain ⟨k, rfl⟩ : ∃ j, k = j + 1 := ⟨k - 1, by omega⟩
    by_cases hlt : i < L.length
    · have hx : rd_T68 L (i : Int) = L.getD i z68 := rfl
      have hy : rd_T68 L' (i : Int) = L'.getD i z68 := rfl
      rw [cambiumref16_Same.l2, if_pos (by omega), if_pos (by omega), if_pos (by omega), hx, hy, drop_z (z := z68) hlt, drop_z (z := z68) (show i < L'.length by omega), allSame, wsuc i (by omega), ih k (i + 1) (by omega) (by omega)]
      show (if neL (L.getD i z68) (L'.getD i z68) = true then _ else _) = _
      split <;> rfl
    · exact hend k i hlt (by omega)
theorem refE_l (a b c : Int) (s o : ByteArray) (d e f : Int) (A : List S53) (E : List S55) (L : List S68) (a' b' c' : Int) (s' o' : ByteArray) (d' e' f' : Int) (A' : List S53) (E' : List S55) (L' : List S68) (hE : E.length ≤ 140737488351232) (he : E.length = E'.length) (hL : L.length ≤ 140737488351232) (hl : L.length = L'.length) (n : Nat) : ∀ (k i : Nat), E.length - i ≤ n → n + L.length + 1 < k →
    cambiumref16_Same.l1 k (i : Int) a b c s o d e f A E L a' b' c' s' o' d' e' f' A' E' L' = some ((allSame neE (E.drop i) (E'.drop i) && allSame neL L L')) := by
  have hend : ∀ (k i : Nat), ¬ i < E.length → L.length < k → cambiumref16_Same.l1 (k + 1) (i : Int) a b c s o d e f A E L a' b' c' s' o' d' e' f' A' E' L' = some ((allSame neE (E.drop i) (E'.drop i) && allSame neL L L')) := by
    intro k i h hk
    rw [cambiumref16_Same.l1, if_neg (by omega), List.drop_eq_nil_of_le (by omega), (show cambiumref16_Same.l2 k 0 a b c s o d e f A E L a' b' c' s' o' d' e' f' A' E' L' = _ from refL_l a b c s o d e f A E L a' b' c' s' o' d' e' f' A' E' L' hL hl L.length k 0 (by omega) (by omega))]
    rfl
  induction n with
  | zero =>
    intro k i h hk
    obtain ⟨k, rfl⟩ : ∃ j, k = j + 1 := ⟨k - 1, by omega⟩
    exact hend k i (by omega) (by omega)
  | succ n ih =>
    intro k i h hk
    obtain ⟨k, rfl⟩ : ∃ j, k = j + 1 := ⟨k - 1, by omega⟩
    by_cases hlt : i < E.length
    · have hx : rd_T55 E (i : Int) = E.getD i z55 := rfl
      have hy : rd_T55 E' (i : Int) = E'.getD i z55 := rfl
      rw [cambiumref16_Same.l1, if_pos (by omega), if_pos (by omega), if_pos (by omega), hx, hy, drop_z (z := z55) hlt, drop_z (z := z55) (show i < E'.length by omega), allSame, wsuc i (by omega), ih k (i + 1) (by omega) (by omega)]
      show (if neE (E.getD i z55) (E'.getD i z55) = true then _ else _) = _
      split <;> rfl
    · exact hend k i hlt (by omega)
theorem refA_l (a b c : Int) (s o : ByteArray) (d e f : Int) (A : List S53) (E : List S55) (L : List S68) (a' b' c' : Int) (s' o' : ByteArray) (d' e' f' : Int) (A' : List S53) (E' : List S55) (L' : List S68) (hA : A.length ≤ 140737488351232) (ha : A.length = A'.length) (hE : E.length ≤ 140737488351232) (he : E.length = E'.length) (hL : L.length ≤ 140737488351232) (hl : L.length = L'.length) (n : Nat) : ∀ (k i : Nat), A.length - i ≤ n → n + E.length + L.length + 2 < k →
    cambiumref16_Same.l0 k (i : Int) a b c s o d e f A E L a' b' c' s' o' d' e' f' A' E' L' = some ((allSame neA (A.drop i) (A'.drop i) && (allSame neE E E' && allSame neL L L'))) := by
  have hend : ∀ (k i : Nat), ¬ i < A.length → E.length + L.length + 1 < k → cambiumref16_Same.l0 (k + 1) (i : Int) a b c s o d e f A E L a' b' c' s' o' d' e' f' A' E' L' = some ((allSame neA (A.drop i) (A'.drop i) && (allSame neE E E' && allSame neL L L'))) := by
    intro k i h hk
    rw [cambiumref16_Same.l0, if_neg (by omega), List.drop_eq_nil_of_le (by omega), (show cambiumref16_Same.l1 k 0 a b c s o d e f A E L a' b' c' s' o' d' e' f' A' E' L' = _ from refE_l a b c s o d e f A E L a' b' c' s' o' d' e' f' A' E' L' hE he hL hl E.length k 0 (by omega) (by omega))]
    rfl
  induction n with
  | zero =>
    intro k i h hk
    obtain ⟨k, rfl⟩ : ∃ j, k = j + 1 := ⟨k - 1, by omega⟩
    exact hend k i (by omega) (by omega)
  | succ n ih =>
    intro k i h hk
    obtain ⟨k, rfl⟩ : ∃ j, k = j + 1 := ⟨k - 1, by omega⟩
    by_cases hlt : i < A.length
    · have hx : rd_T53 A (i : Int) = A.getD i z53 := rfl
      have hy : rd_T53 A' (i : Int) = A'.getD i z53 := rfl
      rw [cambiumref16_Same.l0, if_pos (by omega), if_pos (by omega), if_pos (by omega), hx, hy, drop_z (z := z53) hlt, drop_z (z := z53) (show i < A'.length by omega), allSame, wsuc i (by omega), ih k (i + 1) (by omega) (by omega)]
      show (if neA (A.getD i z53) (A'.getD i z53) = true then _ else _) = _
      split <;> rfl
    · exact hend k i hlt (by omega)
def headB (a b c : Int) (s o : ByteArray) (d e f : Int) (a' b' c' : Int) (s' o' : ByteArray) (d' e' f' : Int) : Prop := a = a' ∧ b = b' ∧ c = c' ∧ s.toList = s'.toList ∧ o.toList = o'.toList ∧ d = d' ∧ e = e' ∧ f = f'
theorem ref_some (k : Nat) (a b c : Int) (s o : ByteArray) (d e f : Int) (A : List S53) (E : List S55) (L : List S68) (a' b' c' : Int) (s' o' : ByteArray) (d' e' f' : Int) (A' : List S53) (E' : List S55) (L' : List S68) (hA : A.length ≤ 140737488351232) (hE : E.length ≤ 140737488351232) (hL : L.length ≤ 140737488351232) (hk : A.length + E.length + L.length + 4 < k) :
    ∃ r, cambiumref16_Same.f k a b c s o d e f A E L a' b' c' s' o' d' e' f' A' E' L' = some r ∧ (r = true ↔ headB a b c s o d e f a' b' c' s' o' d' e' f' ∧ (sameA A A' && (sameE E E' && sameL L L')) = true) := by
  obtain ⟨k, rfl⟩ : ∃ j, k = j + 1 := ⟨k - 1, by omega⟩
  have ht : cambiumref16_Same.j0 (k + 1) true a b c s o d e f A E L a' b' c' s' o' d' e' f' A' E' L' = some false := by rw [cambiumref16_Same.j0, if_pos rfl]
  unfold cambiumref16_Same.f headB
  by_cases h0 : a = a'
  rotate_left
  · rw [if_neg h0, ht]
    exact ⟨false, rfl, ⟨fun hh => (by cases hh), fun hh => absurd hh.1.1 h0⟩⟩
  by_cases h1 : b = b'
  rotate_left
  · rw [if_pos h0, if_neg h1, ht]
    exact ⟨false, rfl, ⟨fun hh => (by cases hh), fun hh => absurd hh.1.2.1 h1⟩⟩
  by_cases h2 : c = c'
  rotate_left
  · rw [if_pos h0, if_pos h1, if_neg h2, ht]
    exact ⟨false, rfl, ⟨fun hh => (by cases hh), fun hh => absurd hh.1.2.2.1 h2⟩⟩
  by_cases h3 : s.toList = s'.toList
  rotate_left
  · rw [if_pos h0, if_pos h1, if_pos h2, if_neg h3, ht]
    exact ⟨false, rfl, ⟨fun hh => (by cases hh), fun hh => absurd hh.1.2.2.2.1 h3⟩⟩
  by_cases h4 : o.toList = o'.toList
  rotate_left
  · rw [if_pos h0, if_pos h1, if_pos h2, if_pos h3, if_neg h4, ht]
    exact ⟨false, rfl, ⟨fun hh => (by cases hh), fun hh => absurd hh.1.2.2.2.2.1 h4⟩⟩
  by_cases h5 : d = d'
  rotate_left
  · rw [if_pos h0, if_pos h1, if_pos h2, if_pos h3, if_pos h4, if_neg h5, ht]
    exact ⟨false, rfl, ⟨fun hh => (by cases hh), fun hh => absurd hh.1.2.2.2.2.2.1 h5⟩⟩
  by_cases h6 : e = e'
  rotate_left
  · rw [if_pos h0, if_pos h1, if_pos h2, if_pos h3, if_pos h4, if_pos h5, if_neg h6, ht]
    exact ⟨false, rfl, ⟨fun hh => (by cases hh), fun hh => absurd hh.1.2.2.2.2.2.2.1 h6⟩⟩
  by_cases h7 : f = f'
  rotate_left
  · rw [if_pos h0, if_pos h1, if_pos h2, if_pos h3, if_pos h4, if_pos h5, if_pos h6, if_neg h7, ht]
    exact ⟨false, rfl, ⟨fun hh => (by cases hh), fun hh => absurd hh.1.2.2.2.2.2.2.2 h7⟩⟩
  have hh : (a = a' ∧ b = b' ∧ c = c' ∧ s.toList = s'.toList ∧ o.toList = o'.toList ∧ d = d' ∧ e = e' ∧ f = f') := ⟨h0, h1, h2, h3, h4, h5, h6, h7⟩
  rw [if_pos h0, if_pos h1, if_pos h2, if_pos h3, if_pos h4, if_pos h5, if_pos h6, if_pos h7]
  by_cases ha : (A.length : Int) = (A'.length : Int)
  rotate_left
  · rw [if_neg ha, ht]
    have hz : sameA A A' = false := by unfold sameA; rw [decide_eq_false ha, Bool.false_and]
    rw [hz]
    exact ⟨false, rfl, ⟨fun h => (by cases h), fun h => (by cases h.2)⟩⟩
  rw [if_pos ha]
  by_cases he : (E.length : Int) = (E'.length : Int)
  rotate_left
  · rw [if_neg he, ht]
    have hz : sameE E E' = false := by unfold sameE; rw [decide_eq_false he, Bool.false_and]
    rw [hz, Bool.false_and, Bool.and_false]
    exact ⟨false, rfl, ⟨fun h => (by cases h), fun h => (by cases h.2)⟩⟩
  rw [if_pos he]
  by_cases hl : (L.length : Int) = (L'.length : Int)
  rotate_left
  · have hb : ((L.length : Int) != (L'.length : Int)) = true := bne_iff_ne.mpr hl
    rw [hb, ht]
    have hz : sameL L L' = false := by unfold sameL; rw [decide_eq_false hl, Bool.false_and]
    rw [hz, Bool.and_false, Bool.and_false]
    exact ⟨false, rfl, ⟨fun h => (by cases h), fun h => (by cases h.2)⟩⟩
  have hb : ((L.length : Int) != (L'.length : Int)) = false := by rw [hl]; exact bne_self_eq_false _
  have sa : sameA A A' = allSame neA A A' := by unfold sameA; rw [decide_eq_true ha, Bool.true_and]
  have se : sameE E E' = allSame neE E E' := by unfold sameE; rw [decide_eq_true he, Bool.true_and]
  have sl : sameL L L' = allSame neL L L' := by unfold sameL; rw [decide_eq_true hl, Bool.true_and]
  rw [hb, cambiumref16_Same.j0, if_neg Bool.false_ne_true, sa, se, sl]
  have h := refA_l a b c s o d e f A E L a' b' c' s' o' d' e' f' A' E' L' hA (by omega) hE (by omega) hL (by omega) A.length k 0 (by omega) (by omega)
  refine ⟨_, h, ⟨fun h => ⟨hh, h⟩, fun h => h.2⟩⟩
theorem allSame_eq {α : Type} {ne : α → α → Bool} (h : ∀ x y, ne x y = false → x = y) : ∀ {l m : List α}, l.length = m.length → allSame ne l m = true → l = m
  | [], [], _, _ => rfl
  | x :: l, y :: m, hl, hs => by
    unfold allSame at hs
    cases hn : ne x y with
    | true => rw [hn, if_pos rfl] at hs; cases hs
    | false =>
      rw [hn, if_neg Bool.false_ne_true] at hs
      rw [h x y hn, allSame_eq h (Nat.succ.inj hl) hs]
  | [], _ :: _, hl, _ => by cases hl
  | _ :: _, [], hl, _ => by cases hl
theorem allSame_self {α : Type} {ne : α → α → Bool} (h : ∀ x, ne x x = false) : ∀ l : List α, allSame ne l l = true
  | [] => rfl
  | x :: l => by rw [allSame, if_neg (by rw [h]; exact Bool.false_ne_true), allSame_self h l]
theorem ba_eq {s t : ByteArray} (h : s.toList = t.toList) : s = t := by
  rw [ByteArray.toList_eq, ByteArray.toList_eq] at h
  cases s; cases t
  exact congrArg ByteArray.mk (Array.toList_inj.1 h)
theorem neA_eq (x y : S53) (h : neA x y = false) : x = y := by
  obtain ⟨a, b, c, d, e⟩ := x
  obtain ⟨a', b', c', d', e'⟩ := y
  unfold neA at h
  simp only [Bool.or_eq_false_iff, Bool.not_eq_false', beq_iff_eq] at h
  obtain ⟨h1, h2, h3, h4, h5⟩ := h
  rw [ba_eq h1, show b = b' from h2, ba_eq h3, show d = d' from h4, show e = e' from h5]
theorem neE_eq (x y : S55) (h : neE x y = false) : x = y := by
  obtain ⟨a, b⟩ := x
  obtain ⟨a', b'⟩ := y
  unfold neE at h
  simp only [Bool.or_eq_false_iff, Bool.not_eq_false', beq_iff_eq] at h
  obtain ⟨h1, h2⟩ := h
  rw [ba_eq h2, show a = a' from h1]
theorem neL_eq (x y : S68) (h : neL x y = false) : x = y := by
  obtain ⟨a, b⟩ := x
  obtain ⟨a', b'⟩ := y
  unfold neL at h
  simp only [Bool.or_eq_false_iff, Bool.not_eq_false', beq_iff_eq] at h
  obtain ⟨h1, h2⟩ := h
  rw [show a = a' from h1, show b = b' from h2]
/-- ref16.Same at whole spans. -/
def SameF (k : Nat) (x y : S27) : Option Bool := cambiumref16_Same.f k x.f0 x.f1 x.f2 x.f3 x.f4 x.f5 x.f6 x.f7 x.f8 x.f9 x.f10 y.f0 y.f1 y.f2 y.f3 y.f4 y.f5 y.f6 y.f7 y.f8 y.f9 y.f10
theorem same_iff (k : Nat) (x y : S27) (hA : x.f8.length ≤ 140737488351232) (hE : x.f9.length ≤ 140737488351232) (hL : x.f10.length ≤ 140737488351232) (hk : x.f8.length + x.f9.length + x.f10.length + 4 < k) : ∃ r, SameF k x y = some r ∧ (r = true ↔ x = y) := by
  obtain ⟨r, e, i⟩ := ref_some k x.f0 x.f1 x.f2 x.f3 x.f4 x.f5 x.f6 x.f7 x.f8 x.f9 x.f10 y.f0 y.f1 y.f2 y.f3 y.f4 y.f5 y.f6 y.f7 y.f8 y.f9 y.f10 hA hE hL hk
  refine ⟨r, e, ?_⟩
  rw [i]
  constructor
  · rintro ⟨⟨h0, h1, h2, h3, h4, h5, h6, h7⟩, hb⟩
    rw [Bool.and_eq_true, Bool.and_eq_true] at hb
    obtain ⟨ba, be, bl⟩ := hb
    unfold sameA at ba
    unfold sameE at be
    unfold sameL at bl
    rw [Bool.and_eq_true, decide_eq_true_iff] at ba be bl
    obtain ⟨x0, x1, x2, x3, x4, x5, x6, x7, x8, x9, x10⟩ := x
    obtain ⟨y0, y1, y2, y3, y4, y5, y6, y7, y8, y9, y10⟩ := y
    have e8 := allSame_eq neA_eq (Int.ofNat_inj.1 ba.1) ba.2
    have e9 := allSame_eq neE_eq (Int.ofNat_inj.1 be.1) be.2
    have e10 := allSame_eq neL_eq (Int.ofNat_inj.1 bl.1) bl.2
    have e3 := ba_eq h3
    have e4 := ba_eq h4
    subst h0 h1 h2 e3 e4 h5 h6 h7 e8 e9 e10
    rfl
  · rintro rfl
    refine ⟨⟨rfl, rfl, rfl, rfl, rfl, rfl, rfl, rfl⟩, ?_⟩
    have sa : sameA x.f8 x.f8 = true := by unfold sameA; rw [decide_eq_true rfl, Bool.true_and, allSame_self (fun x => by unfold neA; simp)]
    have se : sameE x.f9 x.f9 = true := by unfold sameE; rw [decide_eq_true rfl, Bool.true_and, allSame_self (fun x => by unfold neE; simp)]
    have sl : sameL x.f10 x.f10 = true := by unfold sameL; rw [decide_eq_true rfl, Bool.true_and, allSame_self (fun x => by unfold neL; simp)]
    rw [sa, se, sl]
    rfl
end Go.Proofs.YtkgpnfjmahjlcaaDoor.Wi

namespace Go.Proofs.YtkgpnfjmahjlcaaDoor.Wi
open Go.RowKit Go.Proofs.YtkgpnfjmahjlcaaDoorW.PrintWords Go.Proofs.YtkgpnfjmahjlcaaDoorW.PrintLast Go.Proofs.YtkgpnfjmahjlcaaDoorW.PrintMore Go.Proofs.YtkgpnfjmahjlcaaDoor.Math Go.Proofs.YtkgpnfjmahjlcaaDoor.PAll Go.Proofs.YtkgpnfjmahjlcaaDoor.NumFacts Go.Proofs.YtkgpnfjmahjlcaaDoor.Pure
set_option linter.unusedVariables false
set_option linter.unusedSimpArgs false
open Classical in
/-- The span whose bytes these are. -/
noncomputable def readO (l : List Int) : Option S27 := if (spanS (l, false)).2.2 = false ∧ (spanS (l, false)).2.1 = [] ∧ MayP (spanS (l, false)).1 then some (spanS (l, false)).1 else none
theorem readO_some {l : List Int} {s : S27} : readO l = some s ↔ readP MayP l s := by
  unfold readO readP
  constructor
  · intro h
    split at h
    · rename_i hc
      injection h with h
      exact ⟨hc.1, hc.2.1, hc.2.2, h.symm⟩
    · cases h
  · rintro ⟨h1, h2, h3, rfl⟩
    rw [if_pos ⟨h1, h2, h3⟩]
theorem num_sh (q : St) : (numS q).2.1.length ≤ q.1.length := by
  unfold numS
  dsimp only
  split
  · exact Nat.le_refl _
  · show (q.1.drop _).length ≤ _
    rw [List.length_drop]
    omega
theorem size_sh (m : Int) (q : St) : (sizeS m q).2.1.length ≤ q.1.length := by
  unfold sizeS
  split <;> exact num_sh q
theorem take_sh (n : Int) (q : St) : (takeS n q).2.1.length ≤ q.1.length := by
  unfold takeS
  split
  · exact Nat.le_refl _
  · show (q.1.drop _).length ≤ _
    rw [List.length_drop]
    omega
theorem row_sh (q : St) : (rowS q).2.1.length ≤ q.1.length := Nat.le_trans (take_sh _ _) (size_sh _ _)
theorem row_len1 (q : St) : (rowS q).1.length ≤ q.1.length ∨ (rowS q).1.length ≤ 1 := by
  unfold rowS takeS
  split
  · right
    show (List.replicate _ (0 : Int)).length ≤ 1
    rw [List.length_replicate]
    omega
  · left
    show ((sizeS (q.1.length : Int) q).2.1.take _).length ≤ _
    rw [List.length_take]
    have := size_sh (q.1.length : Int) q
    omega
theorem many_le {α : Type} (p : St → α × St) : ∀ (n : Nat) (q : St), (manyS p n q).1.length ≤ n
  | 0, q => Nat.zero_le _
  | n + 1, q => by
    rw [manyS]
    split
    · exact Nat.zero_le _
    · show (_ :: _).length ≤ _
      rw [List.length_cons]
      have := many_le p n (p q).2
      omega
theorem some_le {α : Type} (p : St → α × St) (q : St) : (someS p q).1.length ≤ q.1.length := by
  unfold someS
  refine Nat.le_trans (many_le p _ _) ?_
  unfold sizeS
  split
  · show (0 : Int).toNat ≤ _
    omega
  · omega
theorem fromb_calls {W : World} {A : Option Addr} {c : Nat} {l : List Int} (hr : Kd.C (Kd.int .u8) W A l.length l) (hc : l.length ≤ c) (hB : IsB l) (hl : l.length ≤ 1000000) (hT : Tabs W) :
    Calls Tryd.prog 14 #[.slice A l.length c] W fun e w' => RetS w' W.heap.size e (readO l) ∧ Below W.heap.size W w' := by
  obtain ⟨⟨v0, q1⟩, h0⟩ : ∃ z, numS (l, false) = z := ⟨_, rfl⟩
  obtain ⟨⟨v1, q2⟩, h1⟩ : ∃ z, numS q1 = z := ⟨_, rfl⟩
  obtain ⟨⟨v2, q3⟩, h2⟩ : ∃ z, numS q2 = z := ⟨_, rfl⟩
  obtain ⟨⟨s3, q4⟩, h3⟩ : ∃ z, txtS q3 = z := ⟨_, rfl⟩
  obtain ⟨⟨s4, q5⟩, h4⟩ : ∃ z, txtS q4 = z := ⟨_, rfl⟩
  obtain ⟨⟨v5, q6⟩, h5⟩ : ∃ z, sigS q5 = z := ⟨_, rfl⟩
  obtain ⟨⟨v6, q7⟩, h6⟩ : ∃ z, sigS q6 = z := ⟨_, rfl⟩
  obtain ⟨⟨v7, q8⟩, h7⟩ : ∃ z, sizeS 2 q7 = z := ⟨_, rfl⟩
  obtain ⟨⟨l8, q9⟩, h8⟩ : ∃ z, someS attS q8 = z := ⟨_, rfl⟩
  obtain ⟨⟨l9, q10⟩, h9⟩ : ∃ z, someS evS q9 = z := ⟨_, rfl⟩
  obtain ⟨⟨l10, q11⟩, h10⟩ : ∃ z, someS lkS q10 = z := ⟨_, rfl⟩
  have hl8 : l8.length ≤ 1000000 := by
    have k0 := num_sh (l, false)
    have k1 := num_sh q1
    have k2 := num_sh q2
    have k3 : (txtS q3).2.1.length ≤ q3.1.length := row_sh q3
    have k4 : (txtS q4).2.1.length ≤ q4.1.length := row_sh q4
    have k5 : (sigS q5).2.1.length ≤ q5.1.length := num_sh q5
    have k6 : (sigS q6).2.1.length ≤ q6.1.length := num_sh q6
    have k7 := size_sh 2 q7
    have k8 := some_le attS q8
    rw [h0] at k0
    rw [h1] at k1
    rw [h2] at k2
    rw [h3] at k3
    rw [h4] at k4
    rw [h5] at k5
    rw [h6] at k6
    rw [h7] at k7
    rw [h8] at k8
    dsimp only at k0 k1 k2 k3 k4 k5 k6 k7 k8
    omega
  have hh := span_eq h0 h1 h2 h3 h4 h5 h6 h7 h8 h9 h10
  refine (from_calls hr hc hB hl hT h0 h1 h2 h3 h4 h5 h6 h7 h8 h9 h10 hl8).mono ?_
  rintro e w' ⟨o, ho, hR, hb⟩
  refine ⟨?_, hb⟩
  have : readO l = o := by
    unfold readO
    rw [hh]
    rcases ho with ⟨h1, h2, h3, rfl⟩ | ⟨h1, rfl⟩
    · rw [if_pos ⟨h1, h2, h3⟩]
    · rw [if_neg h1]
  rw [this]
  exact hR
/-- So many rows. -/
def rowsS : Nat → St → List (List Int) × St
  | 0, q => ([], q)
  | n + 1, q => ((rowS q).1 :: (rowsS n (rowS q).2).1, (rowsS n (rowS q).2).2)
/-- What FromBatch tells: the spans, how many aren't, the code. -/
noncomputable def batchS (l : List Int) : List S27 × Int × Int :=
  if markB <+: l then
    (let q := numS (l.drop 4, false)
     if q.2.2 = true then ([], 0, 5) else if q.1 > 64 then ([], 0, 6)
     else
      (let r := rowsS q.1.toNat q.2
       if r.2.2 = true ∨ r.2.1 ≠ [] then ([], 0, 5) else (r.1.filterMap readO, (r.1.length : Int) - ((r.1.filterMap readO).length : Int), 0)))
  else ([], 0, 5)
end Go.Proofs.YtkgpnfjmahjlcaaDoor.Wi

namespace Go.Proofs.YtkgpnfjmahjlcaaDoor.Wi
open Go.RowKit Go.Proofs.YtkgpnfjmahjlcaaDoorW.PrintWords Go.Proofs.YtkgpnfjmahjlcaaDoorW.PrintLast Go.Proofs.YtkgpnfjmahjlcaaDoorW.PrintMore Go.Proofs.YtkgpnfjmahjlcaaDoor.Math Go.Proofs.YtkgpnfjmahjlcaaDoor.PAll Go.Proofs.YtkgpnfjmahjlcaaDoor.NumFacts Go.Proofs.YtkgpnfjmahjlcaaDoor.Pure
set_option linter.unusedVariables false
set_option linter.unusedSimpArgs false
/-- Where a row that is read lies. -/
theorem C_lt0 {w : World} {A : Option Addr} {b : List Int} (hC : Kd.C (Kd.int .u8) w A b.length b) (h0 : 0 < b.length) {ad : Addr} (hA : A = some ad) : ∃ o, w.heap[ad.block]? = some o := by
  obtain ⟨ad', hA', hcc⟩ := C_src hC h0
  rw [hA] at hA'
  injection hA' with hA'
  subst hA'
  have hl' : 0 < (b.map (Value.int .u8)).length := by rw [List.length_map]; exact h0
  have h3 := World.block_lt_of_cell? w _ (hcc 0 _ (List.getElem?_eq_getElem hl'))
  have e : (ad.add 0).block = ad.block := by unfold Addr.add; split <;> rfl
  rw [e] at h3
  exact ⟨_, Array.getElem?_eq_getElem h3⟩
/-- A row of spans stays where the reader's box alone turns. -/
theorem R_box2 {α : Type} {d : Kd α} {e base p : Nat} {w w1 : World} {v : Value} {xs : List α} (h : d.R e w base (fun _ => True) v xs) (ht : Turn (RO p) w w1) (hp : p < base) : d.R e w1 base (fun _ => True) v xs :=
  Kd.R_mono (Kd.R_move (Kd.R_bound h) (fun k hk => ht.block k hk.2.2.1 (by have := hk.2.1; unfold RO; omega))) (fun _ _ => trivial)
/-- The rows within a span are none of the spans' own block. -/
theorem M_other {w : World} {base : Nat} {v : Value} {xs : List S27} {s : S27} {cs : List Value} (h : Kd.R k27 27 w base (fun _ => True) v xs) (hm : k27.M w base (fun _ => True) s cs) : k27.M w base (fun k => some k ≠ v.ownBlock) s cs := by
  obtain ⟨v8, v9, v10, rfl, g8, g9, g10⟩ := k27_openM hm
  have key : ∀ k, some k = v.ownBlock → ∃ c, w.heap[k]? = some (.cells c 27 (0, 0)) := by
    intro k hk
    obtain ⟨_, i1, ho1, _⟩ := h
    rcases ho1.2 with ⟨h3, _⟩ | ⟨g, cap, cur, h3, hg, hh, _⟩
    · rw [h3] at hk; cases hk
    · rw [h3] at hk
      injection hk with hk
      have hk : k = g := hk
      subst hk
      exact ⟨cur, hh⟩
  have sep : ∀ {t : TypeId} {k : Nat}, t ≠ 27 → (∃ cells, w.heap[k]? = some (.cells cells t (0, 0))) → some k ≠ v.ownBlock := by
    rintro t k ht ⟨c1, h1⟩ e
    obtain ⟨c2, h2⟩ := key k e
    rw [h1] at h2
    injection h2 with h2
    injection h2 with _ h2
    exact ht h2
  exact k27_mkM w base _ s (Kd.R_mono (Kd.R_bound g8) (fun k hk => by obtain ⟨t, ht, hc⟩ := hk.2.2.2; exact sep (fun e => by subst e; simp at ht; first | exact absurd ht (by decide) | (rcases ht with ht | ht; exact absurd ht (by decide); cases ht)) hc)) (Kd.R_mono (Kd.R_bound g9) (fun k hk => by obtain ⟨t, ht, hc⟩ := hk.2.2.2; exact sep (fun e => by subst e; simp at ht; first | exact absurd ht (by decide) | (rcases ht with ht | ht; exact absurd ht (by decide); cases ht)) hc)) (Kd.R_mono (Kd.R_bound g10) (fun k hk => by obtain ⟨t, ht, hc⟩ := hk.2.2.2; exact sep (fun e => by subst e; simp at ht; first | exact absurd ht (by decide) | (rcases ht with ht | ht; exact absurd ht (by decide); cases ht)) hc))
theorem rows_step {n k : Nat} {q1 q' : St} {rs : List (List Int)} (h : rowsS n q1 = (rs ++ (rowsS (n - k) q').1, (rowsS (n - k) q').2)) (hk : k < n) : rowsS n q1 = ((rs ++ [(rowS q').1]) ++ (rowsS (n - (k + 1)) (rowS q').2).1, (rowsS (n - (k + 1)) (rowS q').2).2) := by
  rw [h, show n - k = (n - (k + 1)) + 1 by omega, rowsS, List.append_assoc]
  rfl
theorem filter_some {α β : Type} {f : α → Option β} {rs : List α} {r : α} {x : β} (h : f r = some x) : (rs ++ [r]).filterMap f = rs.filterMap f ++ [x] := by
  rw [List.filterMap_append, List.filterMap_cons_some h, List.filterMap_nil]
theorem filter_none {α β : Type} {f : α → Option β} {rs : List α} {r : α} (h : f r = none) : (rs ++ [r]).filterMap f = rs.filterMap f := by
  rw [List.filterMap_append, List.filterMap_cons_none h, List.filterMap_nil, List.append_nil]
/-- What FromBatch hands back. -/
def RetF (w' : World) (N : Nat) (e : Ending) (r : List S27 × Int × Int) : Prop := ∃ v, e = .returned (.tuple #[v, .int .i64 r.2.1, .int .i64 r.2.2]) ∧ Kd.R k27 27 w' N (fun _ => True) v r.1
theorem meas_u {n k : Nat} (hw : IntKind.u64.wrap ((k : Int) + 1) = ((k + 1 : Nat) : Int)) (hk : k < n) : n - (intOf (.int .u64 (IntKind.u64.wrap ((k : Int) + 1)))).toNat < n - (intOf (.int .u64 k)).toNat := by
  rw [hw]
  show n - ((k + 1 : Nat) : Int).toNat < n - (k : Int).toNat
  rw [Int.toNat_natCast, Int.toNat_natCast]
  omega
theorem meas_u2 {n k : Nat} (hk : k < n) : n - (intOf (.int .u64 ((k : Int) + 1))).toNat < n - (intOf (.int .u64 k)).toNat := by
  show n - ((k : Int) + 1).toNat < n - (k : Int).toNat
  omega
theorem info_sp : (Tryd.prog.info? 27).map (fun i => (i.zero, i.size, i.bytes)) = some (some (.agg zc), k27.sz, 152) := by kernel_rfl
set_option maxHeartbeats 8000000 in
set_option maxRecDepth 100000 in
theorem fbatch_calls {W : World} {A : Option Addr} {c : Nat} {l : List Int} (hr : Kd.C (Kd.int .u8) W A l.length l) (hc : l.length ≤ c) (hB : IsB l) (hl : l.length ≤ 1000000) (hT : Tabs W) :
    Calls Tryd.prog 17 #[.slice A l.length c] W fun e w' => RetF w' W.heap.size e (batchS l) ∧ Below W.heap.size W w' := by
  have kc := Lib.run_convert_bytes_const (P := Tryd.prog) W 30 5 #[.int .u8 67, .int .u8 66, .int .u8 65, .int .u8 84] 4 4 Tryd.underlying30 Tryd.underlying5
  have kc : (Go.convert 30 30 (.slice (some ⟨W.heap.size, 0, none⟩) 4 4)).run Tryd.prog (W.alloc (.cells #[.int .u8 67, .int .u8 66, .int .u8 65, .int .u8 84] 5)) = .ok (.slice (some ⟨W.heap.size, 0, none⟩) 4 4) (W.alloc (.cells #[.int .u8 67, .int .u8 66, .int .u8 65, .int .u8 84] 5 (4, 5))) := kc
  have hb1 : Below W.heap.size W (W.alloc (.cells #[.int .u8 67, .int .u8 66, .int .u8 65, .int .u8 84] 5 (4, 5))) := below_alloc (Below.refl _ _) _
  have k1 : (W.alloc (.cells #[.int .u8 67, .int .u8 66, .int .u8 65, .int .u8 84] 5 (4, 5))).heap[W.heap.size]? = some (.cells #[.int .u8 67, .int .u8 66, .int .u8 65, .int .u8 84] 5 (4, 5)) := heap_alloc_new W _
  have hrd : Kd.C (Kd.int .u8) (W.alloc (.cells #[.int .u8 67, .int .u8 66, .int .u8 65, .int .u8 84] 5 (4, 5))) (some ⟨W.heap.size, 0, none⟩) markB.length markB := C_block markB (by decide) k1
  have HCUT := Lib.hid (cut_calls A c l (some ⟨W.heap.size, 0, none⟩) 4 markB _ hB (by intro x hx; simp [markB] at hx; omega) (Kd.C_below hr hb1) hc hrd (by decide))
  have HB1 := Lib.hid hb1
  have HB := Lib.hid hB
  have HL := Lib.hid hl
  have HTB := Lib.hid hT
  have hm4 : markB.length = 4 := rfl
  rw [hm4] at HCUT
  obtain ⟨w1, hw1⟩ : ∃ w1, W.alloc (.cells #[.int .u8 67, .int .u8 66, .int .u8 65, .int .u8 84] 5 (4, 5)) = w1 := ⟨_, rfl⟩
  rw [hw1] at kc HB1 HCUT
  clear hr hc hB hl hT hb1 k1 hrd
  go_enter Tryd.func17, Tryd.ntmps17
  go_wp2_with fail
  refine HCUT.out.mono ?_
  rintro e w2 ⟨hcut, hb⟩
  have HB2 := Lib.hid (below_step HB1.out hb)
  unfold CutIs at hcut
  by_cases hp : markB <+: l
  · rw [if_pos hp] at hcut
    obtain ⟨u, rfl, Au, cu, rfl, hcu, hCu⟩ := hcut
    rw [hm4] at hcu hCu ⊢
    obtain ⟨ld, hld⟩ : ∃ ld, l.drop 4 = ld := ⟨_, rfl⟩
    rw [hld] at hcu hCu ⊢
    have hBd : IsB ld := by rw [← hld]; exact isB_drop HB.out 4
    have hLd : ld.length ≤ 1000000 := by rw [← hld, List.length_drop]; have := HL.out; omega
    obtain ⟨⟨v, q1⟩, hv⟩ : ∃ z, numS (ld, false) = z := ⟨_, rfl⟩
    have HBS := Lib.hid (show batchS l = (if q1.2 = true then ([], 0, 5) else if v > 64 then ([], 0, 6) else (if (rowsS v.toNat q1).2.2 = true ∨ (rowsS v.toNat q1).2.1 ≠ [] then ([], 0, 5) else ((rowsS v.toNat q1).1.filterMap readO, ((rowsS v.toNat q1).1.length : Int) - (((rowsS v.toNat q1).1.filterMap readO).length : Int), 0))) by
      unfold batchS
      rw [if_pos hp, hld, hv])
    obtain ⟨p, hpe⟩ : ∃ p, w2.heap.size = p := ⟨_, rfl⟩
    have hba := below_alloc (Below.refl w2.heap.size w2) (.cells #[.slice Au ld.length cu, .bool false] 78)
    have kp := heap_alloc_new w2 (.cells #[.slice Au ld.length cu, .bool false] 78)
    rw [hpe] at kp
    have hR3 : RdE (w2.alloc (.cells #[.slice Au ld.length cu, .bool false] 78)) p (ld, false) :=
      ⟨Au, cu, kp, hcu, Kd.C_below hCu hba, fun h0 ad hA => by obtain ⟨o, ho⟩ := C_lt0 hCu h0 hA; have := blk_lt ho; omega, hBd, hLd⟩
    have HB3 := Lib.hid (below_step HB2.out hba)
    have HR3 := Lib.hid (rnum_calls hR3)
    rw [hv] at HR3
    have HV0 := Lib.hid (show 0 ≤ v by have h1 := (vget_bounds hBd).1; have h2 : (vget ld).1 = v := congrArg Prod.fst hv; rw [← h2]; exact h1)
    have HPW := Lib.hid (show W.heap.size ≤ p by have := HB2.out.size; omega)
    obtain ⟨w3, hw3⟩ : ∃ w3, w2.alloc (.cells #[.slice Au ld.length cu, .bool false] 78) = w3 := ⟨_, rfl⟩
    rw [hw3] at HB3 HR3
    clear hcu hCu hBd hLd hv hba kp hR3 hb hld
    go_wp2_with fail
    refine HR3.out.mono ?_
    rintro e w4 ⟨rfl, hr4, ht4⟩
    have HR4 := Lib.hid hr4
    have HB4 := Lib.hid (below_turn HB3.out ht4 (fun k hk => by have := HPW.out; unfold RO at hk; omega))
    obtain ⟨A4, c4, hr5⟩ := id hr4
    have kb : w4.cell? ⟨p, 1, none⟩ = some (.bool q1.2) := (blk_cell hr5.blk 1).trans rfl
    clear hr4 ht4 hr5
    cases hq : q1.2 with
    | true =>
      rw [hq] at kb
      have HE := Lib.hid (show batchS l = ([], 0, 5) by rw [HBS.out, if_pos hq])
      clear hq
      go_wp2
      go_ret3
      rw [HE.out]
      exact ⟨⟨_, rfl, Kd.R_nil _ _ _ _ _⟩, HB4.out⟩
    | false =>
      rw [hq] at kb
      by_cases hv64 : v > 64
      · have d1 : decide (v > 64) = true := decide_eq_true hv64
        have d2 : decide (64 < v) = true := decide_eq_true hv64
        have HE := Lib.hid (show batchS l = ([], 0, 6) by rw [HBS.out, if_neg (by rw [hq]; decide), if_pos hv64])
        clear hq hv64
        go_wp2
        go_ret3
        rw [HE.out]
        exact ⟨⟨_, rfl, Kd.R_nil _ _ _ _ _⟩, HB4.out⟩
      · have d1 : decide (v > 64) = false := decide_eq_false hv64
        have d2 : decide (64 < v) = false := decide_eq_false hv64
        obtain ⟨n, hn⟩ : ∃ n : Nat, v = (n : Int) := ⟨v.toNat, by have := HV0.out; omega⟩
        have HN := Lib.hid (show n ≤ 64 by omega)
        have HE := Lib.hid (show batchS l = (if (rowsS n q1).2.2 = true ∨ (rowsS n q1).2.1 ≠ [] then ([], 0, 5) else ((rowsS n q1).1.filterMap readO, ((rowsS n q1).1.length : Int) - (((rowsS n q1).1.filterMap readO).length : Int), 0)) by rw [HBS.out, if_neg (by rw [hq]; decide), if_neg hv64, hn, Int.toNat_natCast])
        subst hn
        clear hq hv64 HBS
        go_wp2
        go_loopw [9, 10, 11, 12, 36] (fun ov nv _ _ iv wr => ∃ (k : Nat) (rs : List (List Int)) (q' : St) (z : Int), k ≤ n ∧ iv = .int .u64 k ∧ nv = .int .i64 z ∧ Hid (z = (rs.length : Int) - ((rs.filterMap readO).length : Int)) ∧ Hid (rs.length = k) ∧ Hid (rowsS n q1 = (rs ++ (rowsS (n - k) q').1, (rowsS (n - k) q').2)) ∧ Hid (RdE wr p q') ∧ Hid (Below W.heap.size W wr) ∧ Hid (Kd.R k27 27 wr (p + 1) (fun _ => True) ov (rs.filterMap readO))) (fun _ _ _ _ i _ => n - (intOf i).toNat)
        case atStart => exact ⟨0, [], q1, 0, Nat.zero_le _, rfl, rfl, Lib.hid rfl, Lib.hid rfl, Lib.hid rfl, HR4, HB4, Lib.hid (Kd.R_nil _ _ _ _ _)⟩
        case round =>
          obtain ⟨k, rs, q', z, hk, rfl, rfl, HZ, HK, HRS, HRd, HBr, HOr⟩ := hrel
          by_cases hlt : k < n
          · have q1_ : decide ((k : Int) < (n : Int)) = true := decide_eq_true (by omega)
            have q2_ : decide (k < n) = true := decide_eq_true hlt
            have HS := Lib.hid (rows_step HRS.out hlt)
            have HLT := Lib.hid hlt
            have hws : IntKind.u64.wrap ((k : Int) + 1) = ((k + 1 : Nat) : Int) := by rw [IntKind.wrap_u64]; have := HN.out; omega
            obtain ⟨⟨row, q2⟩, hrw⟩ : ∃ z, rowS q' = z := ⟨_, rfl⟩
            have HRC := Lib.hid (rrow_calls HRd.out)
            rw [hrw] at HS HRC
            obtain ⟨A6, c6, hr6⟩ := id HRd.out
            have hrowB : IsB row := by have := (row_isB hr6.isb).1; rwa [hrw] at this
            have hrowL : row.length ≤ 1000000 := by have := row_len1 q'; rw [hrw] at this; have := hr6.len; dsimp only at *; omega
            have HRB := Lib.hid hrowB
            have HRL := Lib.hid hrowL
            have HPr := Lib.hid (blk_lt hr6.blk)
            clear hrw hr6 hlt hk hrowB hrowL
            go_wp2_with fail
            refine HRC.out.mono ?_
            rintro e wa ⟨u, rfl, ⟨A7, c7, rfl, hc7, hC7, ho7⟩, hra, hta⟩
            have HBa := Lib.hid (below_turn HBr.out hta (fun k hk => by have := HPW.out; unfold RO at hk; omega))
            have HOa := Lib.hid (R_box2 HOr.out hta (Nat.lt_succ_self p))
            have HRa := Lib.hid hra
            have HSz := Lib.hid hta.size
            have HFC := Lib.hid (fromb_calls hC7 hc7 HRB.out HRL.out (tabs_below HTB.out HBa.out))
            clear hC7 hc7 ho7 hra hta
            go_wp2_with fail
            refine HFC.out.mono ?_
            rintro e wb ⟨hret, hbb⟩
            have HBb := Lib.hid (below_step HBa.out hbb)
            have HOb := Lib.hid (Kd.R_below HOa.out hbb)
            have HRb := Lib.hid (show RdE wb p q2 by obtain ⟨A9, c9, h9⟩ := HRa.out; exact ⟨A9, c9, h9.below hbb⟩)
            cases hro : readO row with
            | none =>
              rw [hro] at hret
              have hret : e = .returned (.tuple #[.agg zc, .int .i64 5]) := hret
              subst hret
              have HFN := Lib.hid (filter_none (rs := rs) hro)
              have hwz : wrap64 (z + 1) = z + 1 := by
                have h1 := HZ.out
                have h2 := HK.out
                have h3 := List.length_filterMap_le readO rs
                have h4 := HN.out
                have h5 := HLT.out
                unfold wrap64
                omega
              have hba2 := below_alloc (Below.refl wb.heap.size wb) (.cells zc 27)
              have HBc := Lib.hid (below_step HBb.out hba2)
              have HOc := Lib.hid (Kd.R_below HOb.out hba2)
              have HRc := Lib.hid (show RdE (wb.alloc (.cells zc 27)) p q2 by obtain ⟨A9, c9, h9⟩ := HRb.out; exact ⟨A9, c9, h9.below hba2⟩)
              clear hro hbb hba2
              go_wp2
              go_roundw
              case rel => exact ⟨k + 1, rs ++ [row], q2, z + 1, HLT.out, by first | rw [hws] | simp, by rw [hwz], Lib.hid (by rw [HFN.out, List.length_append]; have := HZ.out; clear hwz hws; simp only [List.length_cons, List.length_nil]; omega), Lib.hid (by rw [List.length_append]; have := HK.out; simp; omega), HS, HRc, HBc, Lib.hid (by rw [HFN.out]; exact HOc.out)⟩
              case measure => first | exact meas_u hws HLT.out | exact meas_u2 HLT.out
            | some s =>
              rw [hro] at hret
              obtain ⟨cs, rfl, hM⟩ := hret
              have HFS := Lib.hid (filter_some (rs := rs) hro)
              have hM2 := k27.M_lower (show p + 1 ≤ wa.heap.size by have := HPr.out; have := HSz.out; omega) hM
              obtain ⟨v8, v9, v10, rfl, g8, g9, g10⟩ := k27_openM hM2
              obtain ⟨A8, c8, rfl⟩ := Kd.R_slice g8
              obtain ⟨A9, c9, rfl⟩ := Kd.R_slice g9
              obtain ⟨A10, c10, rfl⟩ := Kd.R_slice g10
              have hba2 := below_alloc (Below.refl wb.heap.size wb) (.cells #[.int .u64 s.f0, .int .u64 s.f1, .int .u64 s.f2, .string s.f3, .string s.f4, .int .i64 s.f5, .int .i64 s.f6, .int .i64 s.f7, .slice A8 s.f8.length c8, .slice A9 s.f9.length c9, .slice A10 s.f10.length c10] 27)
              have HBc := Lib.hid (below_step HBb.out hba2)
              have HOc := Lib.hid (Kd.R_below HOb.out hba2)
              have HRc := Lib.hid (show RdE (wb.alloc (.cells #[.int .u64 s.f0, .int .u64 s.f1, .int .u64 s.f2, .string s.f3, .string s.f4, .int .i64 s.f5, .int .i64 s.f6, .int .i64 s.f7, .slice A8 s.f8.length c8, .slice A9 s.f9.length c9, .slice A10 s.f10.length c10] 27)) p q2 by obtain ⟨A9, c9, h9⟩ := HRb.out; exact ⟨A9, c9, h9.below hba2⟩)
              have HM3 := Lib.hid (M_other HOc.out (k27_mkM _ (p + 1) (fun _ => True) s (Kd.R_below g8 hba2) (Kd.R_below g9 hba2) (Kd.R_below g10 hba2)))
              obtain ⟨Ao, co, rfl⟩ := Kd.R_slice HOc.out
              have HLo := Lib.hid (show ((rs.filterMap readO).length + 1) * 152 ≤ 140737488355328 by have h2 := HK.out; have h3 := List.length_filterMap_le readO rs; have h4 := HN.out; have h5 := HLT.out; omega)
              have HPc := Lib.hid (show p + 1 ≤ (wb.alloc (.cells #[.int .u64 s.f0, .int .u64 s.f1, .int .u64 s.f2, .string s.f3, .string s.f4, .int .i64 s.f5, .int .i64 s.f6, .int .i64 s.f7, .slice A8 s.f8.length c8, .slice A9 s.f9.length c9, .slice A10 s.f10.length c10] 27)).heap.size by have := HPr.out; have := HSz.out; have := hbb.size; have := hba2.size; omega)
              obtain ⟨wc, hwc⟩ : ∃ wc, wb.alloc (.cells #[.int .u64 s.f0, .int .u64 s.f1, .int .u64 s.f2, .string s.f3, .string s.f4, .int .i64 s.f5, .int .i64 s.f6, .int .i64 s.f7, .slice A8 s.f8.length c8, .slice A9 s.f9.length c9, .slice A10 s.f10.length c10] 27) = wc := ⟨_, rfl⟩
              obtain ⟨no, hno⟩ : ∃ no, (rs.filterMap readO).length = no := ⟨_, rfl⟩
              have kcell := heap_alloc_new wb (.cells #[.int .u64 s.f0, .int .u64 s.f1, .int .u64 s.f2, .string s.f3, .string s.f4, .int .i64 s.f5, .int .i64 s.f6, .int .i64 s.f7, .slice A8 s.f8.length c8, .slice A9 s.f9.length c9, .slice A10 s.f10.length c10] 27)
              rw [hwc] at HBc HOc HRc HM3 HPc kcell
              rw [hno] at HOc HM3 ⊢
              obtain ⟨⟨x0, x1, x2, x3, x4, x5, x6, x7, x8, x9, x10⟩, _⟩ := cb11 kcell
              clear hro hbb hba2 hM hM2 g8 g9 g10 kcell hno
              go_wp2_with ((with_reducible refine gate_builtin (b := .append) (xs := #[.tmp 48, .tmp 50]) rfl ?_); at_builtin; first | rw [hwc] | skip; refine Kd.R_append k27 (w0 := wc) (p + 1) rfl (.tmp 48) (.tmp 50) 37 27 (.agg zc) 152 rfl Tryd.underlying37 info_sp rfl (by decide) (by decide) (.slice Ao no co) (rs.filterMap readO) s [.int .u64 s.f0, .int .u64 s.f1, .int .u64 s.f2, .string s.f3, .string s.f4, .int .i64 s.f5, .int .i64 s.f6, .int .i64 s.f7, .slice A8 s.f8.length c8, .slice A9 s.f9.length c9, .slice A10 s.f10.length c10] (fun _ => True) (fun k => some k ≠ (Value.slice Ao no co).ownBlock) rfl rfl HM3.out (fun _ hk => ⟨trivial, hk⟩) (fun _ _ => trivial) HOc.out (Below.refl _ _) HPc.out HLo.out ?_; intro vo wd ho hbl hg_ hnew_; have HOd := Lib.hid ho; have HRd2 := Lib.hid (HRc.out.base (Nat.lt_succ_self p) hbl); have HBd := Lib.hid (low_then HBc.out (Nat.le_succ_of_le HPW.out) hbl); clear ho hbl hg_ hnew_)
              go_roundw
              case rel => exact ⟨k + 1, rs ++ [row], q2, z, HLT.out, by first | rw [hws] | simp, rfl, Lib.hid (by rw [HFS.out, List.length_append, List.length_append]; have := HZ.out; simp only [List.length_cons, List.length_nil]; omega), Lib.hid (by rw [List.length_append]; have := HK.out; simp; omega), HS, HRd2, HBd, Lib.hid (by rw [HFS.out]; exact HOd.out)⟩
              case measure => first | exact meas_u hws HLT.out | exact meas_u2 HLT.out
          · have q1_ : decide ((k : Int) < (n : Int)) = false := decide_eq_false (by omega)
            have q2_ : decide (k < n) = false := decide_eq_false hlt
            have hke : k = n := by omega
            subst hke
            have HRS2 := Lib.hid (show rowsS k q1 = (rs, q') by rw [HRS.out, Nat.sub_self, rowsS, List.append_nil])
            have HE2 := Lib.hid (show batchS l = (if q'.2 = true ∨ q'.1 ≠ [] then ([], 0, 5) else (rs.filterMap readO, (rs.length : Int) - ((rs.filterMap readO).length : Int), 0)) by rw [HE.out, HRS2.out])
            obtain ⟨l5, b5⟩ := q'
            obtain ⟨A6, c6, hr6⟩ := id HRd.out
            have r0 : wr.cell? ⟨p, 0, none⟩ = some (.slice A6 l5.length c6) := (blk_cell hr6.blk 0).trans rfl
            have r1 : wr.cell? ⟨p, 1, none⟩ = some (.bool b5) := (blk_cell hr6.blk 1).trans rfl
            have HO5 := Lib.hid (Kd.R_lower HOr.out (Nat.le_succ_of_le HPW.out))
            clear hr6 hlt hk HRS HE HRS2
            cases b5 with
            | true =>
              have HE3 := Lib.hid (show batchS l = ([], 0, 5) by rw [HE2.out, if_pos (Or.inl rfl)])
              go_wp2
              go_ret3
              rw [HE3.out]
              exact ⟨⟨_, rfl, Kd.R_nil _ _ _ _ _⟩, HBr.out⟩
            | false =>
              by_cases hl5 : l5 = []
              · subst hl5
                have HE3 := Lib.hid (show batchS l = (rs.filterMap readO, (rs.length : Int) - ((rs.filterMap readO).length : Int), 0) by rw [HE2.out, if_neg (by simp)])
                obtain ⟨Ao, co, rfl⟩ := Kd.R_slice HO5.out
                obtain ⟨no, hno⟩ : ∃ no, (rs.filterMap readO).length = no := ⟨_, rfl⟩
                have HNO := Lib.hid hno
                rw [hno] at HO5 ⊢
                clear hno
                go_wp2
                go_ret3
                rw [HE3.out]
                exact ⟨⟨_, by rw [show z = (rs.length : Int) - ((rs.filterMap readO).length : Int) from HZ.out]; rfl, HO5.out⟩, HBr.out⟩
              · have hp5 : 0 < l5.length := List.length_pos_iff.2 hl5
                have e1 : decide ((l5.length : Int) > 0) = true := decide_eq_true (by omega)
                have e2 : decide (0 < (l5.length : Int)) = true := decide_eq_true (by omega)
                have e3 : decide (0 < l5.length) = true := decide_eq_true hp5
                have HE3 := Lib.hid (show batchS l = ([], 0, 5) by rw [HE2.out, if_pos (Or.inr hl5)])
                clear hl5 hp5
                go_wp2
                go_ret3
                rw [HE3.out]
                exact ⟨⟨_, rfl, Kd.R_nil _ _ _ _ _⟩, HBr.out⟩
  · rw [if_neg hp] at hcut
    subst hcut
    have HBS := Lib.hid (show batchS l = ([], 0, 5) by unfold batchS; rw [if_neg hp])
    clear hp hb
    go_wp2
    go_ret3
    rw [HBS.out]
    exact ⟨⟨_, rfl, Kd.R_nil _ _ _ _ _⟩, HB2.out⟩
end Go.Proofs.YtkgpnfjmahjlcaaDoor.Wi

namespace Go.Proofs.YtkgpnfjmahjlcaaDoor.Wi
open Go.RowKit Go.Proofs.YtkgpnfjmahjlcaaDoorW.PrintWords Go.Proofs.YtkgpnfjmahjlcaaDoorW.PrintLast Go.Proofs.YtkgpnfjmahjlcaaDoorW.PrintMore Go.Proofs.YtkgpnfjmahjlcaaDoor.Math Go.Proofs.YtkgpnfjmahjlcaaDoor.PAll Go.Proofs.YtkgpnfjmahjlcaaDoor.NumFacts Go.Proofs.YtkgpnfjmahjlcaaDoor.Pure
set_option linter.unusedVariables false
set_option linter.unusedSimpArgs false
/-- Bytes on its way: the span's box (g), the writer (p). -/
structure BtS (W w : World) (g p : Nat) (cs : Array Value) (xs : List Int) : Prop where
  wr : WrE w p xs
  bw : Below W.heap.size W w
  box : w.heap[g]? = some (.cells cs 27 (0, 0))
  gp : g < p
  wp : W.heap.size ≤ p
theorem BtS.next {W w w' : World} {g p : Nat} {cs : Array Value} {xs xs' : List Int} (h : BtS W w g p cs xs) (hw : WrE w' p xs') (ht : WT p w w') : BtS W w' g p cs xs' :=
  ⟨hw, low_then h.bw h.wp (ht.low h.wr), ((ht.low h.wr).block g h.gp).trans h.box, h.gp, h.wp⟩
theorem BtS.conv {W w w' : World} {g p : Nat} {cs : Array Value} {xs : List Int} (h : BtS W w g p cs xs) (hb : Below w.heap.size w w') : BtS W w' g p cs xs := h.next (h.wr.below hb) (WT.below h.wr hb)
theorem BtS.open_ {W w : World} {g p : Nat} {cs : Array Value} {xs : List Int} (h : BtS W w g p cs xs) : ∃ A c, w.cell? ⟨p, 0, none⟩ = some (.slice A xs.length c) ∧ Kd.R (Kd.int .u8) 5 w W.heap.size (fun _ => True) (.slice A xs.length c) xs := by
  obtain ⟨A, c, hw⟩ := h.wr
  exact ⟨A, c, (blk_cell hw.blk 0).trans rfl, Kd.R_lower hw.row h.wp⟩
/-- What Bytes hands back. -/
def RetB (w' : World) (N : Nat) (e : Ending) (x : S27) : Prop :=
  (MayP x ∧ ∃ v, e = .returned v ∧ Kd.R (Kd.int .u8) 5 w' N (fun _ => True) v (enc x)) ∨ (¬ MayP x ∧ e = .returned (.slice none 0 0))
set_option maxHeartbeats 8000000 in
set_option maxRecDepth 100000 in
theorem bytes_yes {W : World} (x : S27) {A8 A9 A10 : Option Addr} {c8 c9 c10 : Nat} (l8 : x.f8.length ≤ c8) (g8 : Kd.C k53 W A8 x.f8.length x.f8) (l9 : x.f9.length ≤ c9) (g9 : Kd.C k55 W A9 x.f9.length x.f9) (l10 : x.f10.length ≤ c10) (g10 : Kd.C k68 W A10 x.f10.length x.f10) (hT : Tabs W) (hm : MayP x) (ho : SpOk x) :
    Calls Tryd.prog 10 #[.agg #[.int .u64 x.f0, .int .u64 x.f1, .int .u64 x.f2, .string x.f3, .string x.f4, .int .i64 x.f5, .int .i64 x.f6, .int .i64 x.f7, .slice A8 x.f8.length c8, .slice A9 x.f9.length c9, .slice A10 x.f10.length c10]] W fun e w' => ∃ v, e = .returned v ∧ Kd.R (Kd.int .u8) 5 w' W.heap.size (fun _ => True) v (enc x) ∧ Below W.heap.size W w' := by
  have hlen := enc_len ho hm
  have hbp := hm.2
  have HBT := Lib.hid (body_texts hbp)
  have HBE := Lib.hid (fun y hy => name_size _ (ev_ok (any_false hbp.2.2.2.2.1 y hy)).2)
  have HL := Lib.hid (show x.f8.length ≤ 16 ∧ x.f9.length ≤ 16 ∧ x.f10.length ≤ 16 from ⟨by have := hbp.2.1; omega, by have := hbp.2.2.1; omega, by have := hbp.2.2.2.1; omega⟩)
  have HN3 := Lib.hid (show (x.f3.size : Int) ≤ 140737488355328 by have := name_size _ hm.1.2.2.2.1; omega)
  have HN4 := Lib.hid (show (x.f4.size : Int) ≤ 140737488355328 by have := name_size _ hm.1.2.2.2.2.1; omega)
  have HO := Lib.hid ho
  have HG8 := Lib.hid g8
  have HG9 := Lib.hid g9
  have HG10 := Lib.hid g10
  have h7w : IntKind.u64.wrap x.f7 = x.f7 := by rw [IntKind.wrap_u64]; have := ho.h; omega
  obtain ⟨s0, hs0⟩ : ∃ s, vput x.f0 = s := ⟨_, rfl⟩
  obtain ⟨s1, hs1⟩ : ∃ s, vput x.f1 = s := ⟨_, rfl⟩
  obtain ⟨s2, hs2⟩ : ∃ s, vput x.f2 = s := ⟨_, rfl⟩
  obtain ⟨s3, hs3⟩ : ∃ s, rowE (bytesOf x.f3) = s := ⟨_, rfl⟩
  obtain ⟨s4, hs4⟩ : ∃ s, rowE (bytesOf x.f4) = s := ⟨_, rfl⟩
  obtain ⟨s5, hs5⟩ : ∃ s, vput (zig x.f5) = s := ⟨_, rfl⟩
  obtain ⟨s6, hs6⟩ : ∃ s, vput (zig x.f6) = s := ⟨_, rfl⟩
  obtain ⟨s7, hs7⟩ : ∃ s, vput x.f7 = s := ⟨_, rfl⟩
  obtain ⟨s8, hs8⟩ : ∃ s, listE attE x.f8 = s := ⟨_, rfl⟩
  obtain ⟨s9, hs9⟩ : ∃ s, listE evE x.f9 = s := ⟨_, rfl⟩
  obtain ⟨s10, hs10⟩ : ∃ s, listE lkE x.f10 = s := ⟨_, rfl⟩
  have he : enc x = s0 ++ (s1 ++ (s2 ++ (s3 ++ (s4 ++ (s5 ++ (s6 ++ (s7 ++ (s8 ++ (s9 ++ (s10)))))))))) := by unfold enc txtE; rw [hs0, hs1, hs2, hs3, hs4, hs5, hs6, hs7, hs8, hs9, hs10]
  rw [he] at hlen
  have HLEN := Lib.hid (show s0.length + s1.length + s2.length + s3.length + s4.length + s5.length + s6.length + s7.length + s8.length + s9.length + s10.length ≤ 10000 by simp only [List.length_append] at hlen; omega)
  have HE := Lib.hid (show enc x = ((((((((((s0) ++ s1) ++ s2) ++ s3) ++ s4) ++ s5) ++ s6) ++ s7) ++ s8) ++ s9) ++ s10 by rw [he]; simp only [List.append_assoc])
  obtain ⟨r, hrm, him⟩ := span_may (x.f8.length + 2) x.f0 x.f1 x.f2 x.f3 x.f4 x.f5 x.f6 x.f7 x.f8 x.f9 x.f10 (by have := HL.out; omega) (by omega)
  obtain rfl : r = true := him.2 hm
  have HS0 := Lib.hid hs0
  have HS1 := Lib.hid hs1
  have HS2 := Lib.hid hs2
  have HS3 := Lib.hid hs3
  have HS4 := Lib.hid hs4
  have HS5 := Lib.hid hs5
  have HS6 := Lib.hid hs6
  have HS7 := Lib.hid hs7
  have HS8 := Lib.hid hs8
  have HS9 := Lib.hid hs9
  have HS10 := Lib.hid hs10
  obtain ⟨g, hg⟩ : ∃ g, W.heap.size = g := ⟨_, rfl⟩
  have hb1 := below_alloc (Below.refl W.heap.size W) (.cells #[.int .u64 x.f0, .int .u64 x.f1, .int .u64 x.f2, .string x.f3, .string x.f4, .int .i64 x.f5, .int .i64 x.f6, .int .i64 x.f7, .slice A8 x.f8.length c8, .slice A9 x.f9.length c9, .slice A10 x.f10.length c10] 27)
  have k1 := heap_alloc_new W (.cells #[.int .u64 x.f0, .int .u64 x.f1, .int .u64 x.f2, .string x.f3, .string x.f4, .int .i64 x.f5, .int .i64 x.f6, .int .i64 x.f7, .slice A8 x.f8.length c8, .slice A9 x.f9.length c9, .slice A10 x.f10.length c10] 27)
  have hsz : (W.alloc (.cells #[.int .u64 x.f0, .int .u64 x.f1, .int .u64 x.f2, .string x.f3, .string x.f4, .int .i64 x.f5, .int .i64 x.f6, .int .i64 x.f7, .slice A8 x.f8.length c8, .slice A9 x.f9.length c9, .slice A10 x.f10.length c10] 27)).heap.size = g + 1 := by simp [hg]
  obtain ⟨w1, hw1⟩ : ∃ w1, W.alloc (.cells #[.int .u64 x.f0, .int .u64 x.f1, .int .u64 x.f2, .string x.f3, .string x.f4, .int .i64 x.f5, .int .i64 x.f6, .int .i64 x.f7, .slice A8 x.f8.length c8, .slice A9 x.f9.length c9, .slice A10 x.f10.length c10] 27) = w1 := ⟨_, rfl⟩
  rw [hw1] at hb1 k1 hsz
  rw [hg] at k1
  have HM := Lib.hid (span_May.calls (x.f8.length + 2) x.f0 x.f1 x.f2 x.f3 x.f4 x.f5 x.f6 x.f7 A8 c8 x.f8 A9 c9 x.f9 A10 c10 x.f10 true w1 (Kd.C_below g8 hb1) l8 (Kd.C_below g9 hb1) l9 (Kd.C_below g10 hb1) l10 hrm (tabs_below hT hb1))
  have HB1 := Lib.hid hb1
  have HK1 := Lib.hid k1
  have HL8 := Lib.hid l8
  have HL9 := Lib.hid l9
  have HL10 := Lib.hid l10
  have y0 : w1.cell? ⟨g, 0, none⟩ = some (.int .u64 x.f0) := (blk_cell k1 0).trans rfl
  have y1 : w1.cell? ⟨g, 1, none⟩ = some (.int .u64 x.f1) := (blk_cell k1 1).trans rfl
  have y2 : w1.cell? ⟨g, 2, none⟩ = some (.int .u64 x.f2) := (blk_cell k1 2).trans rfl
  have y3 : w1.cell? ⟨g, 3, none⟩ = some (.string x.f3) := (blk_cell k1 3).trans rfl
  have y4 : w1.cell? ⟨g, 4, none⟩ = some (.string x.f4) := (blk_cell k1 4).trans rfl
  have y5 : w1.cell? ⟨g, 5, none⟩ = some (.int .i64 x.f5) := (blk_cell k1 5).trans rfl
  have y6 : w1.cell? ⟨g, 6, none⟩ = some (.int .i64 x.f6) := (blk_cell k1 6).trans rfl
  have y7 : w1.cell? ⟨g, 7, none⟩ = some (.int .i64 x.f7) := (blk_cell k1 7).trans rfl
  have y8 : w1.cell? ⟨g, 8, none⟩ = some (.slice A8 x.f8.length c8) := (blk_cell k1 8).trans rfl
  have y9 : w1.cell? ⟨g, 9, none⟩ = some (.slice A9 x.f9.length c9) := (blk_cell k1 9).trans rfl
  have y10 : w1.cell? ⟨g, 10, none⟩ = some (.slice A10 x.f10.length c10) := (blk_cell k1 10).trans rfl
  clear hlen hbp hs0 hs1 hs2 hs3 hs4 hs5 hs6 hs7 hs8 hs9 hs10 he hrm him hm ho hT l8 l9 l10 g8 g9 g10 hb1 k1
  go_enter Tryd.func10, Tryd.ntmps10
  go_wp2_with fail
  refine HM.out.mono ?_
  rintro e w2 ⟨rfl, hb⟩
  have hb2 := below_step HB1.out hb
  have k2 := block_below HK1.out hb
  have hgl := blk_lt k2
  obtain ⟨p, hp⟩ : ∃ p, w2.heap.size = p := ⟨_, rfl⟩
  have hba := below_alloc (Below.refl w2.heap.size w2) (.cells #[.slice none 0 0] 58)
  have kp := heap_alloc_new w2 (.cells #[.slice none 0 0] 58)
  have k3 := block_below k2 hba
  have hs0 : BtS W (w2.alloc (.cells #[.slice none 0 0] 58)) g p #[.int .u64 x.f0, .int .u64 x.f1, .int .u64 x.f2, .string x.f3, .string x.f4, .int .i64 x.f5, .int .i64 x.f6, .int .i64 x.f7, .slice A8 x.f8.length c8, .slice A9 x.f9.length c9, .slice A10 x.f10.length c10] [] := by
    rw [hp] at kp
    exact ⟨⟨none, 0, kp, Kd.R_nil _ _ _ _ _⟩, below_step hb2 hba, k3, by omega, by omega⟩
  obtain ⟨w3, hw3⟩ : ∃ w3, w2.alloc (.cells #[.slice none 0 0] 58) = w3 := ⟨_, rfl⟩
  rw [hw3] at hs0
  have HSt := Lib.hid hs0
  have z0 : w3.cell? ⟨g, 0, none⟩ = some (.int .u64 x.f0) := (blk_cell HSt.out.box 0).trans rfl
  clear hb hb2 k2 hba kp k3 hs0 hgl y0 y1 y2 y3 y4 y5 y6 y7 y8 y9 y10
  go_wp2_with fail
  refine (wnum_calls HSt.out.wr x.f0 HO.out.a (by rw [HS0.out]; have := HLEN.out; simp only [List.length_append, List.length_nil]; omega)).mono ?_
  rintro e w4 ⟨rfl, hW, hT⟩
  rw [List.nil_append] at hW
  rw [HS0.out] at hW
  have HSt := Lib.hid (HSt.out.next hW hT)
  have z1 : w4.cell? ⟨g, 1, none⟩ = some (.int .u64 x.f1) := (blk_cell HSt.out.box 1).trans rfl
  clear hW hT z0
  go_wp2_with fail
  refine (wnum_calls HSt.out.wr x.f1 HO.out.b (by rw [HS1.out]; have := HLEN.out; simp only [List.length_append, List.length_nil]; omega)).mono ?_
  rintro e w5 ⟨rfl, hW, hT⟩
  rw [HS1.out] at hW
  have HSt := Lib.hid (HSt.out.next hW hT)
  have z2 : w5.cell? ⟨g, 2, none⟩ = some (.int .u64 x.f2) := (blk_cell HSt.out.box 2).trans rfl
  clear hW hT z1
  go_wp2_with fail
  refine (wnum_calls HSt.out.wr x.f2 HO.out.c (by rw [HS2.out]; have := HLEN.out; simp only [List.length_append, List.length_nil]; omega)).mono ?_
  rintro e w6 ⟨rfl, hW, hT⟩
  rw [HS2.out] at hW
  have HSt := Lib.hid (HSt.out.next hW hT)
  have z3 : w6.cell? ⟨g, 3, none⟩ = some (.string x.f3) := (blk_cell HSt.out.box 3).trans rfl
  clear hW hT z2
  go_wp2_with ((with_reducible refine gate_dst (N := 24) rfl ?_); refine Conv.V_conv _ 5 rfl (N' := 24) rfl 9 30 _ rfl Tryd.underlying9 Tryd.underlying30 Tryd.underlying5 x.f3 rfl HN3.out (Below.refl _ _) (Nat.le_refl _) ?_; intro v7 w7 ho hb hg_ hnew_; obtain ⟨Ar, cr, rfl, hcr, hCr⟩ := V_open ho; have HCr := Lib.hid hCr; have HXr := Lib.hid (HSt.out.wr.conv hb hnew_); have HSt := Lib.hid (HSt.out.conv hb); clear ho hb hg_ hnew_ hCr z3)
  refine (wrow_calls HSt.out.wr HCr.out hcr (fun _ => HXr.out) (by rw [HS3.out]; have := HLEN.out; simp only [List.length_append, List.length_nil]; omega)).mono ?_
  rintro e w8 ⟨rfl, hW, hT⟩
  rw [HS3.out] at hW
  have HSt := Lib.hid (HSt.out.next hW hT)
  have z4 : w8.cell? ⟨g, 4, none⟩ = some (.string x.f4) := (blk_cell HSt.out.box 4).trans rfl
  clear hW hT
  go_wp2_with ((with_reducible refine gate_dst (N := 29) rfl ?_); refine Conv.V_conv _ 5 rfl (N' := 29) rfl 9 30 _ rfl Tryd.underlying9 Tryd.underlying30 Tryd.underlying5 x.f4 rfl HN4.out (Below.refl _ _) (Nat.le_refl _) ?_; intro v9 w9 ho hb hg_ hnew_; obtain ⟨Ar, cr, rfl, hcr, hCr⟩ := V_open ho; have HCr := Lib.hid hCr; have HXr := Lib.hid (HSt.out.wr.conv hb hnew_); have HSt := Lib.hid (HSt.out.conv hb); clear ho hb hg_ hnew_ hCr z4)
  refine (wrow_calls HSt.out.wr HCr.out hcr (fun _ => HXr.out) (by rw [HS4.out]; have := HLEN.out; simp only [List.length_append, List.length_nil]; omega)).mono ?_
  rintro e w10 ⟨rfl, hW, hT⟩
  rw [HS4.out] at hW
  have HSt := Lib.hid (HSt.out.next hW hT)
  have z5 : w10.cell? ⟨g, 5, none⟩ = some (.int .i64 x.f5) := (blk_cell HSt.out.box 5).trans rfl
  clear hW hT
  go_wp2_with fail
  refine (wsig_calls HSt.out.wr x.f5 HO.out.f (by rw [HS5.out]; have := HLEN.out; simp only [List.length_append, List.length_nil]; omega)).mono ?_
  rintro e w11 ⟨rfl, hW, hT⟩
  rw [HS5.out] at hW
  have HSt := Lib.hid (HSt.out.next hW hT)
  have z6 : w11.cell? ⟨g, 6, none⟩ = some (.int .i64 x.f6) := (blk_cell HSt.out.box 6).trans rfl
  clear hW hT z5
  go_wp2_with fail
  refine (wsig_calls HSt.out.wr x.f6 HO.out.g (by rw [HS6.out]; have := HLEN.out; simp only [List.length_append, List.length_nil]; omega)).mono ?_
  rintro e w12 ⟨rfl, hW, hT⟩
  rw [HS6.out] at hW
  have HSt := Lib.hid (HSt.out.next hW hT)
  have z7 : w12.cell? ⟨g, 7, none⟩ = some (.int .i64 x.f7) := (blk_cell HSt.out.box 7).trans rfl
  clear hW hT z6
  go_wp2_with fail
  refine (wnum_calls HSt.out.wr x.f7 ⟨HO.out.h.1, by have := HO.out.h; omega⟩ (by rw [HS7.out]; have := HLEN.out; simp only [List.length_append, List.length_nil]; omega)).mono ?_
  rintro e w13 ⟨rfl, hW, hT⟩
  rw [HS7.out] at hW
  have HSt := Lib.hid (HSt.out.next hW hT)
  have z8 : w13.cell? ⟨g, 8, none⟩ = some (.slice A8 x.f8.length c8) := (blk_cell HSt.out.box 8).trans rfl
  clear hW hT z7
  go_wp2_with fail
  refine (list_at HSt.out.wr HSt.out.bw HSt.out.wp HG8.out HL8.out (fun y hy => ⟨by have := (HBT.out y hy).2; have := name_size _ this; omega, by have := (HBT.out y hy).1; omega, (HO.out.i.2 y hy).2.2.2.2.1, (HO.out.i.2 y hy).2.1, (HO.out.i.2 y hy).2.2.1⟩) (by rw [HS8.out]; have := HLEN.out; simp only [List.length_append, List.length_nil]; omega) (by have := HL.out; omega)).mono ?_
  rintro e w14 ⟨rfl, hW, hT⟩
  rw [HS8.out] at hW
  have HSt := Lib.hid (HSt.out.next hW hT)
  have z9 : w14.cell? ⟨g, 9, none⟩ = some (.slice A9 x.f9.length c9) := (blk_cell HSt.out.box 9).trans rfl
  clear hW hT z8
  go_wp2_with fail
  refine (list_ev HSt.out.wr HSt.out.bw HSt.out.wp HG9.out HL9.out (fun y hy => ⟨(HO.out.j.2 y hy).1, by have := HBE.out y hy; omega⟩) (by rw [HS9.out]; have := HLEN.out; simp only [List.length_append, List.length_nil]; omega) (by have := HL.out; omega)).mono ?_
  rintro e w15 ⟨rfl, hW, hT⟩
  rw [HS9.out] at hW
  have HSt := Lib.hid (HSt.out.next hW hT)
  have z10 : w15.cell? ⟨g, 10, none⟩ = some (.slice A10 x.f10.length c10) := (blk_cell HSt.out.box 10).trans rfl
  clear hW hT z9
  go_wp2_with fail
  refine (list_lk HSt.out.wr HSt.out.bw HSt.out.wp HG10.out HL10.out (fun y hy => HO.out.k.2 y hy) (by rw [HS10.out]; have := HLEN.out; simp only [List.length_append, List.length_nil]; omega) (by have := HL.out; omega)).mono ?_
  rintro e w16 ⟨rfl, hW, hT⟩
  rw [HS10.out] at hW
  have HSt := Lib.hid (HSt.out.next hW hT)
  clear hW hT z10
  obtain ⟨A, c, kz, hR⟩ := HSt.out.open_
  have HR := Lib.hid hR
  obtain ⟨m, hm⟩ : ∃ m, (((((((((((s0) ++ s1) ++ s2) ++ s3) ++ s4) ++ s5) ++ s6) ++ s7) ++ s8) ++ s9) ++ s10).length = m := ⟨_, rfl⟩
  rw [hm] at kz HR
  clear hR hm
  go_wp2
  go_ret
  exact ⟨_, rfl, by rw [HE.out]; exact HR.out, HSt.out.bw⟩
set_option maxHeartbeats 4000000 in
set_option maxRecDepth 100000 in
theorem bytes_no {W : World} (x : S27) {A8 A9 A10 : Option Addr} {c8 c9 c10 : Nat} (l8 : x.f8.length ≤ c8) (g8 : Kd.C k53 W A8 x.f8.length x.f8) (l9 : x.f9.length ≤ c9) (g9 : Kd.C k55 W A9 x.f9.length x.f9) (l10 : x.f10.length ≤ c10) (g10 : Kd.C k68 W A10 x.f10.length x.f10) (hT : Tabs W) (hl : x.f8.length ≤ 140737488351232) (hm : ¬ MayP x) :
    Calls Tryd.prog 10 #[.agg #[.int .u64 x.f0, .int .u64 x.f1, .int .u64 x.f2, .string x.f3, .string x.f4, .int .i64 x.f5, .int .i64 x.f6, .int .i64 x.f7, .slice A8 x.f8.length c8, .slice A9 x.f9.length c9, .slice A10 x.f10.length c10]] W fun e w' => e = .returned (.slice none 0 0) ∧ Below W.heap.size W w' := by
  obtain ⟨r, hrm, him⟩ := span_may (x.f8.length + 2) x.f0 x.f1 x.f2 x.f3 x.f4 x.f5 x.f6 x.f7 x.f8 x.f9 x.f10 hl (by omega)
  obtain rfl : r = false := by cases r with | false => rfl | true => exact absurd (him.1 rfl) hm
  have hb1 := below_alloc (Below.refl W.heap.size W) (.cells #[.int .u64 x.f0, .int .u64 x.f1, .int .u64 x.f2, .string x.f3, .string x.f4, .int .i64 x.f5, .int .i64 x.f6, .int .i64 x.f7, .slice A8 x.f8.length c8, .slice A9 x.f9.length c9, .slice A10 x.f10.length c10] 27)
  have HM := Lib.hid (span_May.calls (x.f8.length + 2) x.f0 x.f1 x.f2 x.f3 x.f4 x.f5 x.f6 x.f7 A8 c8 x.f8 A9 c9 x.f9 A10 c10 x.f10 false _ (Kd.C_below g8 hb1) l8 (Kd.C_below g9 hb1) l9 (Kd.C_below g10 hb1) l10 hrm (tabs_below hT hb1))
  have HB1 := Lib.hid hb1
  clear hrm him hm hT l8 l9 l10 g8 g9 g10 hb1 hl
  go_enter Tryd.func10, Tryd.ntmps10
  go_wp2_with fail
  refine HM.out.mono ?_
  rintro e w2 ⟨rfl, hb⟩
  have HB2 := Lib.hid (below_step HB1.out hb)
  clear hb
  go_wp2
  go_ret
  exact ⟨rfl, HB2.out⟩
/-- What Bytes tells of any span. -/
theorem bytes_calls {W : World} (x : S27) {A8 A9 A10 : Option Addr} {c8 c9 c10 : Nat} (l8 : x.f8.length ≤ c8) (g8 : Kd.C k53 W A8 x.f8.length x.f8) (l9 : x.f9.length ≤ c9) (g9 : Kd.C k55 W A9 x.f9.length x.f9) (l10 : x.f10.length ≤ c10) (g10 : Kd.C k68 W A10 x.f10.length x.f10) (hT : Tabs W) (hl : x.f8.length ≤ 140737488351232) (ho : MayP x → SpOk x) :
    Calls Tryd.prog 10 #[.agg #[.int .u64 x.f0, .int .u64 x.f1, .int .u64 x.f2, .string x.f3, .string x.f4, .int .i64 x.f5, .int .i64 x.f6, .int .i64 x.f7, .slice A8 x.f8.length c8, .slice A9 x.f9.length c9, .slice A10 x.f10.length c10]] W fun e w' => RetB w' W.heap.size e x ∧ Below W.heap.size W w' := by
  by_cases hm : MayP x
  · refine (bytes_yes x l8 g8 l9 g9 l10 g10 hT hm (ho hm)).mono ?_
    rintro e w' ⟨v, rfl, hR, hb⟩
    exact ⟨.inl ⟨hm, v, rfl, hR⟩, hb⟩
  · refine (bytes_no x l8 g8 l9 g9 l10 g10 hT hl hm).mono ?_
    rintro e w' ⟨rfl, hb⟩
    exact ⟨.inr ⟨hm, rfl⟩, hb⟩
end Go.Proofs.YtkgpnfjmahjlcaaDoor.Wi

namespace Go.Proofs.YtkgpnfjmahjlcaaDoor.Wi
open Go.RowKit Go.Proofs.YtkgpnfjmahjlcaaDoorW.PrintWords Go.Proofs.YtkgpnfjmahjlcaaDoorW.PrintLast Go.Proofs.YtkgpnfjmahjlcaaDoorW.PrintMore Go.Proofs.YtkgpnfjmahjlcaaDoor.Math Go.Proofs.YtkgpnfjmahjlcaaDoor.PAll Go.Proofs.YtkgpnfjmahjlcaaDoor.NumFacts Go.Proofs.YtkgpnfjmahjlcaaDoor.Pure
set_option linter.unusedVariables false
set_option linter.unusedSimpArgs false
theorem info_row : (Tryd.prog.info? 30).map (fun i => (i.zero, i.size, i.bytes)) = some (some (.slice none 0 0), 1, 24) := by kernel_rfl
theorem enc_pos (x : S27) : 0 < (enc x).length := by
  unfold enc
  have := vput_len_pos x.f0
  rw [List.length_append]
  omega
/-- What Batch tells. -/
def RetT (w' : World) (N : Nat) (e : Ending) (l : List S27) : Prop :=
  ((∀ x ∈ l, MayP x) ∧ ∃ v, e = .returned (.tuple #[v, .int .i64 0]) ∧ Kd.R (Kd.int .u8) 5 w' N (fun _ => True) v (markB ++ listE rowE (l.map enc))) ∨ ((∃ x ∈ l, ¬ MayP x) ∧ e = .returned (.tuple #[.slice none 0 0, .int .i64 5]))
theorem rows_len {l : List S27} (h : ∀ x ∈ l, (enc x).length ≤ 10000) (hn : l.length ≤ 64) : (markB ++ listE rowE (l.map enc)).length ≤ 1000000 := by
  unfold listE
  simp only [List.length_append, List.length_map]
  have h1 := vput_len10 (v := (l.length : Int)) (by omega)
  have h2 : ((l.map enc).flatMap rowE).length ≤ (l.map enc).length * 10010 := flat_max (fun b hb => by
    obtain ⟨x, hx, rfl⟩ := List.mem_map.1 hb
    unfold rowE
    have := h x hx
    have := vput_len10 (v := ((enc x).length : Int)) (by omega)
    rw [List.length_append]
    omega)
  rw [List.length_map] at h2
  have h3 : l.length * 10010 ≤ 64 * 10010 := Nat.mul_le_mul_right _ hn
  have h4 : markB.length = 4 := rfl
  omega
/-- A row of bytes is none of the rows' own block. -/
theorem row_other {w : World} {N : Nat} {v v2 : Value} {xs : List (List Int)} {ys : List Int} (h : Kd.R (Kd.slice 5 (Kd.int .u8)) 30 w N (fun _ => True) v xs) (h2 : Kd.R (Kd.int .u8) 5 w N (fun _ => True) v2 ys) :
    Kd.R (Kd.int .u8) 5 w N (fun k => some k ≠ v.ownBlock) v2 ys := by
  refine Kd.R_flat (fun {_ _ _ _} hm => hm) h2 (fun k hk _ e => ?_)
  obtain ⟨_, i1, ho1, _⟩ := h
  obtain ⟨_, i2, ho2, _⟩ := h2
  rcases ho1.2 with ⟨h3, _⟩ | ⟨g, cap, cur, h3, hg, hh, _⟩
  · rw [h3] at e; cases e
  rcases ho2.2 with ⟨h4, _⟩ | ⟨g2, cap2, cur2, h4, hg2, hh2, _⟩
  · rw [h4] at hk; cases hk
  rw [h3] at e
  rw [h4] at hk
  injection e with e
  injection hk with hk
  have e : k = g := e
  have hk : g2 = k := hk
  subst e
  subst hk
  rw [hh] at hh2
  injection hh2 with hh2
  injection hh2 with _ hh2
  exact absurd hh2 (by decide)
set_option maxHeartbeats 8000000 in
set_option maxRecDepth 100000 in
theorem batch_calls {W : World} {A : Option Addr} {c : Nat} {l : List S27} (hC : Kd.C k27 W A l.length l) (hc : l.length ≤ c) (hT : Tabs W) (hn : l.length ≤ 64) (hok : ∀ x ∈ l, MayP x → SpOk x) (h8 : ∀ x ∈ l, x.f8.length ≤ 140737488351232) :
    Calls Tryd.prog 20 #[.slice A l.length c] W fun e w' => RetT w' W.heap.size e l ∧ Below W.heap.size W w' := by
  have d1 : decide ((l.length : Int) > 64) = false := decide_eq_false (by omega)
  have d2 : decide ((64 : Int) < (l.length : Int)) = false := decide_eq_false (by omega)
  have d3 : decide (64 < l.length) = false := decide_eq_false (by omega)
  have HC := Lib.hid hC
  have HTB := Lib.hid hT
  have HN := Lib.hid (show l.length ≤ 1000000 by omega)
  have HN64 := Lib.hid hn
  have HOK := Lib.hid hok
  have H8 := Lib.hid h8
  have q : ∀ (w : World) (a : Option Addr) (n c n' c' : Nat), (Go.binOp .eql 30 (.slice a n c) (.slice none n' c')).run Tryd.prog w = .ok (.bool a.isNone) w := fun w a n c n' c' => Lib.run_eql_slice_nil w _ _ a n c n' c' Tryd.underlying30
  clear hC hT hn hok h8
  go_enter Tryd.func20, Tryd.ntmps20
  go_wp2
  go_loopw [4, 6, 7, 13] (fun v _ _ i wr => ∃ k : Nat, k ≤ l.length ∧ i = .int .i64 k ∧ Hid (∀ x ∈ l.take k, MayP x) ∧ Hid (Below W.heap.size W wr) ∧ Hid (Kd.R (Kd.slice 5 (Kd.int .u8)) 30 wr W.heap.size (fun _ => True) v ((l.take k).map enc))) (fun _ _ _ i _ => l.length - (intOf i).toNat)
  case atStart => exact ⟨0, Nat.zero_le _, rfl, Lib.hid (by simp), Lib.hid (Below.refl _ _), Lib.hid (by simpa using Kd.R_nil _ _ _ _ _)⟩
  case round =>
    obtain ⟨k, hk, rfl, HMk, HB, HO⟩ := hrel
    by_cases hlt : k < l.length
    · have q1 : decide ((k : Int) < (l.length : Int)) = true := decide_eq_true (by omega)
      have q2 : decide (k < l.length) = true := decide_eq_true hlt
      have q3 : (k : Int) < (l.length : Int) := by omega
      obtain ⟨ad, A8, c8, A9, c9, A10, c10, hA, y0, y1, y2, y3, y4, y5, y6, y7, y8, y9, y10, l8, g8, l9, g9, l10, g10⟩ := at_T27 (Kd.C_below HC.out HB.out) (k : Int) (by omega) (by omega)
      obtain ⟨x, hxe⟩ : ∃ x, l[k]? = some x := ⟨_, List.getElem?_eq_getElem hlt⟩
      have hx : rd_T27 l (k : Int) = x := by
        show l.getD (Int.toNat (k : Int)) _ = x
        rw [Int.toNat_natCast, List.getD_eq_getElem?_getD, hxe]
        rfl
      have hmem := List.mem_of_getElem? hxe
      rw [hx] at y0 y1 y2 y3 y4 y5 y6 y7 y8 y9 y10 l8 g8 l9 g9 l10 g10
      rw [Int.toNat_natCast] at y0 y1 y2 y3 y4 y5 y6 y7 y8 y9 y10
      subst hA
      have HTK := Lib.hid (show l.take (k + 1) = l.take k ++ [x] by
        obtain ⟨h1, h2⟩ := List.getElem?_eq_some_iff.1 hxe
        rw [List.take_succ_eq_append_getElem h1, h2])
      have hba := below_alloc (Below.refl wr.heap.size wr) (.cells #[.int .u64 x.f0, .int .u64 x.f1, .int .u64 x.f2, .string x.f3, .string x.f4, .int .i64 x.f5, .int .i64 x.f6, .int .i64 x.f7, .slice A8 x.f8.length c8, .slice A9 x.f9.length c9, .slice A10 x.f10.length c10] 27)
      have HBC := Lib.hid (bytes_calls x l8 (Kd.C_below g8 hba) l9 (Kd.C_below g9 hba) l10 (Kd.C_below g10 hba) (tabs_below HTB.out (below_step HB.out hba)) (H8.out x hmem) (HOK.out x hmem))
      have HBa := Lib.hid (below_step HB.out hba)
      have HOa := Lib.hid (Kd.R_below HO.out hba)
      have HLT := Lib.hid hlt
      have HMX := Lib.hid hmem
      clear hx hxe hlt hk hba l8 g8 l9 g9 l10 g10 hmem
      go_wp2_with fail
      refine HBC.out.mono ?_
      rintro e w3 ⟨hret, hb⟩
      have HB3 := Lib.hid (below_step HBa.out hb)
      have HO3 := Lib.hid (Kd.R_below HOa.out hb)
      rcases hret with ⟨hm, v, rfl, hR⟩ | ⟨hm, rfl⟩
      · obtain ⟨a3, c3, rfl⟩ := Kd.R_slice1 hR (enc_pos x)
        have HR3 := Lib.hid hR
        have HM3 := Lib.hid hm
        obtain ⟨Av, cv, rfl⟩ := Kd.R_slice HO3.out
        obtain ⟨m3, hm3⟩ : ∃ m, (enc x).length = m := ⟨_, rfl⟩
        have HV3 := Lib.hid hm3
        rw [hm3]
        obtain ⟨n3, hn3⟩ : ∃ m, ((l.take k).map enc).length = m := ⟨_, rfl⟩
        have HLL := Lib.hid (show (((l.take k).map enc).length + 1) * 24 ≤ 140737488355328 by rw [List.length_map, List.length_take]; have := HN.out; omega)
        rw [hn3] at HO3 ⊢
        clear hb hR hm hm3 hn3 y0 y1 y2 y3 y4 y5 y6 y7 y8 y9 y10
        go_wp2_with ((with_reducible refine gate_builtin (b := .append) (xs := #[.tmp 21, .tmp 23]) rfl ?_); at_builtin; refine Kd.R_append (Kd.slice 5 (Kd.int .u8)) (w0 := w3) W.heap.size rfl (.tmp 21) (.tmp 23) 42 30 (.slice none 0 0) 24 rfl Tryd.underlying42 info_row rfl (by decide) (by decide) (.slice Av n3 cv) ((l.take k).map enc) (enc x) [.slice (some a3) m3 c3] (fun _ => True) (fun k => some k ≠ (Value.slice Av n3 cv).ownBlock) rfl rfl ⟨.slice (some a3) m3 c3, rfl, by rw [← HV3.out]; exact row_other HO3.out (Kd.R_lower HR3.out HBa.out.size)⟩ (fun _ hk => ⟨trivial, hk⟩) (fun _ _ => trivial) HO3.out (Below.refl _ _) HB3.out.size HLL.out ?_; intro v4 w4 ho hbl hg_ hnew_; have HO4 := Lib.hid (show Kd.R (Kd.slice 5 (Kd.int .u8)) 30 w4 W.heap.size (fun _ => True) v4 ((l.take (k + 1)).map enc) by rw [HTK.out, List.map_append, List.map_cons, List.map_nil]; exact ho); have HB4 := Lib.hid (low_then HB3.out (Nat.le_refl _) hbl); clear ho hbl hg_ hnew_)
        go_roundw
        case rel => exact ⟨k + 1, HLT.out, by rw [wsuc1 HLT.out (by have := HN.out; omega)], Lib.hid (by rw [HTK.out]; intro y hy; rcases List.mem_append.1 hy with hy | hy; exact HMk.out y hy; rw [List.mem_singleton.1 hy]; exact HM3.out), HB4, HO4⟩
        case measure => exact meas1 (by have := HN.out; omega) HLT.out
      · have HX := Lib.hid hm
        clear hb hm y0 y1 y2 y3 y4 y5 y6 y7 y8 y9 y10
        go_wp2
        go_ret2
        exact ⟨.inr ⟨⟨x, HMX.out, HX.out⟩, rfl⟩, HB3.out⟩
    · have q1 : decide ((k : Int) < (l.length : Int)) = false := decide_eq_false (by omega)
      have hke : k = l.length := by omega
      subst hke
      have HMA := Lib.hid (show ∀ x ∈ l, MayP x by have := HMk.out; rwa [List.take_length] at this)
      have hO2 := HO.out
      rw [List.take_length] at hO2
      have HO2 := Lib.hid hO2
      clear hO2
      obtain ⟨Av, cv, rfl⟩ := Kd.R_slice HO2.out
      obtain ⟨_, hcv, hCv⟩ := Kd.R_reads' HO2.out
      have hll : ∀ x ∈ l, (enc x).length ≤ 10000 := fun x hx => enc_len (HOK.out x hx (HMA.out x hx)) (HMA.out x hx)
      have HJ := Lib.hid (join_calls hCv hcv (Nat.le_trans (rows_len hll HN64.out) (by decide)))
      obtain ⟨n7, hn7⟩ : ∃ m, (l.map enc).length = m := ⟨_, rfl⟩
      rw [hn7] at HJ ⊢
      clear hlt hk HO hcv hCv hll hn7 HO2
      go_wp2_with fail
      refine HJ.out.mono ?_
      rintro e w3 ⟨v, rfl, hR, hb⟩
      obtain ⟨A5, c5, rfl⟩ := Kd.R_slice hR
      obtain ⟨m5, hm5⟩ : ∃ m, (markB ++ listE rowE (l.map enc)).length = m := ⟨_, rfl⟩
      rw [hm5] at hR ⊢
      have HR := Lib.hid (Kd.R_lower hR HB.out.size)
      have HB3 := Lib.hid (below_step HB.out hb)
      clear hR hb hm5
      go_wp2
      go_ret2
      exact ⟨.inl ⟨HMA.out, _, rfl, HR.out⟩, HB3.out⟩
end Go.Proofs.YtkgpnfjmahjlcaaDoor.Wi

namespace Go.Proofs.YtkgpnfjmahjlcaaDoor.Wi
open Go.RowKit Go.Proofs.YtkgpnfjmahjlcaaDoorW.PrintWords Go.Proofs.YtkgpnfjmahjlcaaDoorW.PrintLast Go.Proofs.YtkgpnfjmahjlcaaDoorW.PrintMore Go.Proofs.YtkgpnfjmahjlcaaDoor.Math Go.Proofs.YtkgpnfjmahjlcaaDoor.PAll Go.Proofs.YtkgpnfjmahjlcaaDoor.NumFacts Go.Proofs.YtkgpnfjmahjlcaaDoor.Pure Go.Proofs.YtkgpnfjmahjlcaaDoor.Span Go.Proofs.YtkgpnfjmahjlcaaDoor.Runes Go.Proofs.YtkgpnfjmahjlcaaDoor.Text
set_option linter.unusedVariables false
set_option linter.unusedSimpArgs false
/-- A span's rows, as its cells name them. -/
structure Hs (w : World) (x : S27) (A8 : Option Addr) (c8 : Nat) (A9 : Option Addr) (c9 : Nat) (A10 : Option Addr) (c10 : Nat) : Prop where
  l8 : x.f8.length ≤ c8
  g8 : Kd.C k53 w A8 x.f8.length x.f8
  l9 : x.f9.length ≤ c9
  g9 : Kd.C k55 w A9 x.f9.length x.f9
  l10 : x.f10.length ≤ c10
  g10 : Kd.C k68 w A10 x.f10.length x.f10
variable {w w1 : World} {x y : S27} {A8 A9 A10 B8 B9 B10 : Option Addr} {c8 c9 c10 d8 d9 d10 : Nat}
theorem Hs.below (h : Hs w x A8 c8 A9 c9 A10 c10) (hb : Below w.heap.size w w1) : Hs w1 x A8 c8 A9 c9 A10 c10 := ⟨h.l8, Kd.C_below h.g8 hb, h.l9, Kd.C_below h.g9 hb, h.l10, Kd.C_below h.g10 hb⟩
/-- The rows are no longer than rows may be. -/
structure Few (x : S27) : Prop where
  a : x.f8.length ≤ 140737488351232
  b : x.f9.length ≤ 140737488351232
  c : x.f10.length ≤ 140737488351232
theorem small_w (h : Hs w x A8 c8 A9 c9 A10 c10) (f : Few x) : Calls Tryd.prog 9 #[.agg #[.int .u64 x.f0, .int .u64 x.f1, .int .u64 x.f2, .string x.f3, .string x.f4, .int .i64 x.f5, .int .i64 x.f6, .int .i64 x.f7, .slice A8 x.f8.length c8, .slice A9 x.f9.length c9, .slice A10 x.f10.length c10]] w fun e w' => (∃ r, e = .returned (.bool r)) ∧ Below w.heap.size w w' := by
  obtain ⟨r, hr⟩ := small_some (x.f8.length + x.f9.length + 4) x.f0 x.f1 x.f2 x.f3 x.f4 x.f5 x.f6 x.f7 x.f8 x.f9 x.f10 f.a f.b (by omega)
  refine (cambiumref16_Small.calls _ x.f0 x.f1 x.f2 x.f3 x.f4 x.f5 x.f6 x.f7 A8 c8 x.f8 A9 c9 x.f9 A10 c10 x.f10 r w h.g8 h.l8 h.g9 h.l9 h.g10 h.l10 hr).mono ?_
  rintro e w' ⟨rfl, hb⟩
  exact ⟨⟨r, rfl⟩, hb⟩
theorem may_w (h : Hs w x A8 c8 A9 c9 A10 c10) (f : Few x) : Calls Tryd.prog 13 #[.agg #[.int .u64 x.f0, .int .u64 x.f1, .int .u64 x.f2, .string x.f3, .string x.f4, .int .i64 x.f5, .int .i64 x.f6, .int .i64 x.f7, .slice A8 x.f8.length c8, .slice A9 x.f9.length c9, .slice A10 x.f10.length c10]] w fun e w' => (∃ r, e = .returned (.bool r) ∧ (r = true ↔ MayP x)) ∧ Below w.heap.size w w' := by
  obtain ⟨r, hr, hi⟩ := ref_may (x.f9.length + x.f10.length + 2301) x.f0 x.f1 x.f2 x.f3 x.f4 x.f5 x.f6 x.f7 x.f8 x.f9 x.f10 f.b f.c (by omega)
  refine (cambiumref16_May.calls _ x.f0 x.f1 x.f2 x.f3 x.f4 x.f5 x.f6 x.f7 A8 c8 x.f8 A9 c9 x.f9 A10 c10 x.f10 r w h.g8 h.l8 h.g9 h.l9 h.g10 h.l10 hr).mono ?_
  rintro e w' ⟨rfl, hb⟩
  exact ⟨⟨r, rfl, hi⟩, hb⟩
theorem same_w (h : Hs w x A8 c8 A9 c9 A10 c10) (h2 : Hs w y B8 d8 B9 d9 B10 d10) (f : Few x) : Calls Tryd.prog 15 #[.agg #[.int .u64 x.f0, .int .u64 x.f1, .int .u64 x.f2, .string x.f3, .string x.f4, .int .i64 x.f5, .int .i64 x.f6, .int .i64 x.f7, .slice A8 x.f8.length c8, .slice A9 x.f9.length c9, .slice A10 x.f10.length c10], .agg #[.int .u64 y.f0, .int .u64 y.f1, .int .u64 y.f2, .string y.f3, .string y.f4, .int .i64 y.f5, .int .i64 y.f6, .int .i64 y.f7, .slice B8 y.f8.length d8, .slice B9 y.f9.length d9, .slice B10 y.f10.length d10]] w fun e w' => (∃ r, e = .returned (.bool r) ∧ (r = true ↔ x = y)) ∧ Below w.heap.size w w' := by
  obtain ⟨r, hr, hi⟩ := same_iff (x.f8.length + x.f9.length + x.f10.length + 5) x y f.a f.b f.c (by omega)
  refine (cambiumref16_Same.calls _ x.f0 x.f1 x.f2 x.f3 x.f4 x.f5 x.f6 x.f7 A8 c8 x.f8 A9 c9 x.f9 A10 c10 x.f10 y.f0 y.f1 y.f2 y.f3 y.f4 y.f5 y.f6 y.f7 B8 d8 y.f8 B9 d9 y.f9 B10 d10 y.f10 r w h.g8 h.l8 h.g9 h.l9 h.g10 h.l10 h2.g8 h2.l8 h2.g9 h2.l9 h2.g10 h2.l10 hr).mono ?_
  rintro e w' ⟨rfl, hb⟩
  exact ⟨⟨r, rfl, hi⟩, hb⟩
/-- What FromBytes hands back, as a span's rows. -/
theorem ret_some {N : Nat} {e : Ending} {s : S27} (h : RetS w N e (some s)) : ∃ A8 c8 A9 c9 A10 c10, e = .returned (.tuple #[.agg #[.int .u64 s.f0, .int .u64 s.f1, .int .u64 s.f2, .string s.f3, .string s.f4, .int .i64 s.f5, .int .i64 s.f6, .int .i64 s.f7, .slice A8 s.f8.length c8, .slice A9 s.f9.length c9, .slice A10 s.f10.length c10], .int .i64 0]) ∧ Hs w s A8 c8 A9 c9 A10 c10 := by
  obtain ⟨cs, rfl, hM⟩ := h
  obtain ⟨v8, v9, v10, rfl, g8, g9, g10⟩ := k27_openM hM
  obtain ⟨A8, c8, rfl⟩ := Kd.R_slice g8
  obtain ⟨A9, c9, rfl⟩ := Kd.R_slice g9
  obtain ⟨A10, c10, rfl⟩ := Kd.R_slice g10
  have h8 := Kd.R_reads' g8
  have h9 := Kd.R_reads' g9
  have h10 := Kd.R_reads' g10
  exact ⟨A8, c8, A9, c9, A10, c10, rfl, h8.2.1, h8.2.2, h9.2.1, h9.2.2, h10.2.1, h10.2.2⟩
def aw : S27 := ⟨1, 2, 0, ⟨#[115]⟩, ⟨#[111]⟩, 0, 0, 0, [], [], []⟩
theorem aw_may : MayP aw := by
  refine ⟨⟨by decide, by decide, by decide, one_name 115 (by decide) (by decide), one_name 111 (by decide) (by decide), ?_, ?_, by decide, by decide⟩, rfl, by decide, by decide, by decide, rfl, rfl⟩
  · unfold timeB; decide
  · unfold timeB; decide
theorem aw_ok : SpOk aw := by
  refine may_ok ⟨⟨?_, ?_⟩, ⟨?_, ?_⟩, ⟨?_, ?_⟩, ⟨?_, ?_⟩, ⟨?_, ?_⟩, ?_, ?_, ?_⟩ aw_may
  all_goals first | decide | (intro y hy; cases hy)
theorem aw_few : Few aw := ⟨by decide, by decide, by decide⟩
theorem aw_enc : enc aw = [1, 2, 0, 1, 115, 1, 111, 0, 0, 0, 0, 0, 0] := by
  have h : ∀ n : Int, n < 128 → vput n = [n] := fun n h => vput_lt h
  have z : zig 0 = 0 := by decide
  have b1 : bytesOf ⟨#[115]⟩ = [115] := rfl
  have b2 : bytesOf ⟨#[111]⟩ = [111] := rfl
  unfold enc aw txtE rowE listE
  dsimp only
  rw [z, b1, b2]
  simp [h]
theorem aw_len : (enc aw).length = 13 := by rw [aw_enc]; rfl
theorem batch_nil : batchS [] = ([], 0, 5) := by
  unfold batchS
  rw [if_neg (by unfold markB; intro h; cases h.length_le)]
theorem mark_nil : markB ++ listE rowE (([] : List S27).map enc) = [67, 66, 65, 84, 0] := by
  unfold listE
  rw [show ((([] : List S27).map enc).length : Int) = 0 from rfl, vput_lt (by decide)]
  rfl
set_option maxHeartbeats 4000000 in
theorem awake_calls {W : World} (hT : Tabs W) : Calls Tryd.prog 8 #[] W fun e w' => e = .returned (.bool true) ∧ Below W.heap.size W w' := by
  have hba := below_alloc (Below.refl W.heap.size W) (.cells #[.int .u64 1, .int .u64 2, .int .u64 0, .string ⟨#[115]⟩, .string ⟨#[111]⟩, .int .i64 0, .int .i64 0, .int .i64 0, .slice none 0 0, .slice none 0 0, .slice none 0 0] 27)
  have k1 := heap_alloc_new W (.cells #[.int .u64 1, .int .u64 2, .int .u64 0, .string ⟨#[115]⟩, .string ⟨#[111]⟩, .int .i64 0, .int .i64 0, .int .i64 0, .slice none 0 0, .slice none 0 0, .slice none 0 0] 27)
  have hs0 : Hs (W.alloc (.cells #[.int .u64 1, .int .u64 2, .int .u64 0, .string ⟨#[115]⟩, .string ⟨#[111]⟩, .int .i64 0, .int .i64 0, .int .i64 0, .slice none 0 0, .slice none 0 0, .slice none 0 0] 27)) aw none 0 none 0 none 0 := ⟨Nat.le_refl _, Kd.C_nil _ _, Nat.le_refl _, Kd.C_nil _ _, Nat.le_refl _, Kd.C_nil _ _⟩
  have HBC := Lib.hid (bytes_calls aw hs0.l8 hs0.g8 hs0.l9 hs0.g9 hs0.l10 hs0.g10 (tabs_below hT hba) aw_few.a (fun _ => aw_ok))
  have HBC : Hid (Calls Tryd.prog 10 #[.agg #[.int .u64 1, .int .u64 2, .int .u64 0, .string ⟨#[115]⟩, .string ⟨#[111]⟩, .int .i64 0, .int .i64 0, .int .i64 0, .slice none 0 0, .slice none 0 0, .slice none 0 0]] (W.alloc (.cells #[.int .u64 1, .int .u64 2, .int .u64 0, .string ⟨#[115]⟩, .string ⟨#[111]⟩, .int .i64 0, .int .i64 0, .int .i64 0, .slice none 0 0, .slice none 0 0, .slice none 0 0] 27)) _) := HBC
  have HTB := Lib.hid hT
  have HB1 := Lib.hid hba
  have HH1 := Lib.hid hs0
  obtain ⟨⟨y0, y1, y2, y3, y4, y5, y6, y7, y8, y9, y10⟩, yf⟩ := cb11 k1
  have HK1 := Lib.hid k1
  clear hba k1 hs0 hT
  go_enter Tryd.func8, Tryd.ntmps8
  go_wp2_with fail
  clear y0 y1 y2 y3 y4 y5 y6 y7 y8 y9 y10 yf
  generalize W.alloc (.cells #[.int .u64 1, .int .u64 2, .int .u64 0, .string ⟨#[115]⟩, .string ⟨#[111]⟩, .int .i64 0, .int .i64 0, .int .i64 0, .slice none 0 0, .slice none 0 0, .slice none 0 0] 27) = w1 at HBC HB1 HH1 HK1 ⊢
  obtain ⟨g, hg⟩ : ∃ g, W.heap.size = g := ⟨_, rfl⟩
  rw [hg] at HK1 ⊢
  refine HBC.out.mono ?_
  rintro e w2 ⟨hret, hb⟩
  rcases hret with ⟨_, v, rfl, hR⟩ | ⟨hm, _⟩
  rotate_left
  · exact absurd aw_may hm
  obtain ⟨a2, c2, rfl⟩ := Kd.R_slice1 hR (enc_pos aw)
  rw [aw_len] at hR ⊢
  have hr2 := Kd.R_reads' hR
  have HB2 := Lib.hid (below_step HB1.out hb)
  have HH2 := Lib.hid (HH1.out.below hb)
  have HK2 := Lib.hid (block_below HK1.out hb)
  have HFB := Lib.hid (fromb_calls hr2.2.2 (by rw [aw_len]; exact hr2.2.1) (isB_enc aw_ok) (by rw [aw_len]; decide) (tabs_below HTB.out HB2.out))
  rw [aw_len] at HFB
  obtain ⟨⟨y0, y1, y2, y3, y4, y5, y6, y7, y8, y9, y10⟩, yf⟩ := cb11 HK2.out
  clear hR hr2 hb HBC HH1 HK1 hg
  go_wp2_with fail
  refine HFB.out.mono ?_
  rintro e w3 ⟨hret, hb⟩
  rw [readO_some.2 (read_enc aw_ok aw_may)] at hret
  obtain ⟨B8, d8, B9, d9, B10, d10, he, hs3⟩ := ret_some hret
  have he : e = .returned (.tuple #[.agg #[.int .u64 1, .int .u64 2, .int .u64 0, .string ⟨#[115]⟩, .string ⟨#[111]⟩, .int .i64 0, .int .i64 0, .int .i64 0, .slice B8 0 d8, .slice B9 0 d9, .slice B10 0 d10], .int .i64 0]) := he
  subst he
  have HB3 := Lib.hid (below_step HB2.out hb)
  have hba := below_alloc (Below.refl w3.heap.size w3) (.cells #[.int .u64 1, .int .u64 2, .int .u64 0, .string ⟨#[115]⟩, .string ⟨#[111]⟩, .int .i64 0, .int .i64 0, .int .i64 0, .slice B8 0 d8, .slice B9 0 d9, .slice B10 0 d10] 27)
  have k3 := heap_alloc_new w3 (.cells #[.int .u64 1, .int .u64 2, .int .u64 0, .string ⟨#[115]⟩, .string ⟨#[111]⟩, .int .i64 0, .int .i64 0, .int .i64 0, .slice B8 0 d8, .slice B9 0 d9, .slice B10 0 d10] 27)
  have HH3 := Lib.hid (hs3.below hba)
  have HH2 := Lib.hid ((HH2.out.below hb).below hba)
  have HK3 := Lib.hid k3
  have HK2 := Lib.hid (block_below (block_below HK2.out hb) hba)
  have HB4 := Lib.hid (below_step HB3.out hba)
  have HBT := Lib.hid (batch_calls (A := none) (c := 0) (l := []) (Kd.C_nil _ _) (Nat.le_refl 0) (tabs_below HTB.out HB4.out) (by decide) (fun x h => by cases h) (fun x h => by cases h))
  have HBT : Hid (Calls Tryd.prog 20 #[.slice none 0 0] _ _) := HBT
  clear hb hba k3 hs3 hret y0 y1 y2 y3 y4 y5 y6 y7 y8 y9 y10 yf
  go_wp2_with fail
  generalize w3.alloc (.cells #[.int .u64 1, .int .u64 2, .int .u64 0, .string ⟨#[115]⟩, .string ⟨#[111]⟩, .int .i64 0, .int .i64 0, .int .i64 0, .slice B8 0 d8, .slice B9 0 d9, .slice B10 0 d10] 27) = w4 at HBT HB4 HH3 HH2 HK2 HK3 ⊢
  generalize w3.heap.size = g3 at HK3 ⊢
  refine HBT.out.mono ?_
  rintro e w5 ⟨hret, hb⟩
  rcases hret with ⟨_, v5, rfl, hR⟩ | ⟨⟨x, hx, _⟩, _⟩
  rotate_left
  · cases hx
  rw [mark_nil] at hR
  obtain ⟨a5, c5, rfl⟩ := Kd.R_slice1 hR (by decide)
  have hr5 := Kd.R_reads' hR
  have HB5 := Lib.hid (below_step HB4.out hb)
  have HH5 := Lib.hid (HH3.out.below hb)
  have HH6 := Lib.hid (HH2.out.below hb)
  have HK5 := Lib.hid (block_below HK3.out hb)
  have HK6 := Lib.hid (block_below HK2.out hb)
  have HC5 := Lib.hid hr5.2.2
  have HFT := Lib.hid (fbatch_calls (A := none) (c := 0) (l := []) (Kd.C_nil _ w5) (Nat.le_refl 0) (fun x h => by cases h) (by decide) (tabs_below HTB.out HB5.out))
  rw [batch_nil] at HFT
  have HFT : Hid (Calls Tryd.prog 17 #[.slice none 0 0] _ _) := HFT
  clear hR hr5 hb HBT HH3 HK3 HH2 HK2
  go_wp2_with fail
  refine HFT.out.mono ?_
  rintro e w6 ⟨⟨v6, rfl, hR6⟩, hb⟩
  dsimp only
  have HB6 := Lib.hid (below_step HB5.out hb)
  have hc6 := Kd.C_below HC5.out hb
  obtain ⟨ad5, hA5, hs5⟩ := C_src hc6 (by decide)
  injection hA5 with hA5
  subst hA5
  have u0 : w6.cell? a5 = some (.int .u8 67) := by have h := hs5 0 _ rfl; rwa [show a5.add 0 = a5 by unfold Addr.add; split <;> simp_all] at h
  have HSM := Lib.hid (same_w (HH5.out.below hb) (HH6.out.below hb) aw_few)
  have HSM : Hid (Calls Tryd.prog 15 #[.agg #[.int .u64 1, .int .u64 2, .int .u64 0, .string ⟨#[115]⟩, .string ⟨#[111]⟩, .int .i64 0, .int .i64 0, .int .i64 0, .slice B8 0 d8, .slice B9 0 d9, .slice B10 0 d10], .agg #[.int .u64 1, .int .u64 2, .int .u64 0, .string ⟨#[115]⟩, .string ⟨#[111]⟩, .int .i64 0, .int .i64 0, .int .i64 0, .slice none 0 0, .slice none 0 0, .slice none 0 0]] w6 _) := HSM
  obtain ⟨⟨x0, x1, x2, x3, x4, x5, x6, x7, x8, x9, x10⟩, xf⟩ := cb11 (block_below HK5.out hb)
  obtain ⟨⟨y0, y1, y2, y3, y4, y5, y6, y7, y8, y9, y10⟩, yf⟩ := cb11 (block_below HK6.out hb)
  clear hR6 hb HFT HC5 hc6 hs5
  go_wp2_with fail
  refine HSM.out.mono ?_
  rintro e w7 ⟨⟨r, rfl, hr⟩, hb⟩
  obtain rfl := hr.2 (by first | rfl | trivial)
  have u0' : w7.cell? a5 = some (.int .u8 67) := (hb.cell (World.block_lt_of_cell? w6 _ u0)).trans u0
  have HB7 := Lib.hid (below_step HB6.out hb)
  clear u0 hb HSM hr x0 x1 x2 x3 x4 x5 x6 x7 x8 x9 x10 xf y0 y1 y2 y3 y4 y5 y6 y7 y8 y9 y10 yf
  go_wp2
  go_ret
  exact ⟨rfl, HB7.out⟩
end Go.Proofs.YtkgpnfjmahjlcaaDoor.Wi

namespace Go.Proofs.YtkgpnfjmahjlcaaDoor.Walk
open Go.RowKit Go.Proofs.YtkgpnfjmahjlcaaDoorW.PrintWords Go.Proofs.YtkgpnfjmahjlcaaDoorW.PrintLast Go.Proofs.YtkgpnfjmahjlcaaDoorW.PrintMore Go.Proofs.YtkgpnfjmahjlcaaDoor.Math Go.Proofs.YtkgpnfjmahjlcaaDoor.PAll Go.Proofs.YtkgpnfjmahjlcaaDoor.NumFacts Go.Proofs.YtkgpnfjmahjlcaaDoor.Pure Go.Proofs.YtkgpnfjmahjlcaaDoor.Span Go.Proofs.YtkgpnfjmahjlcaaDoor.Runes Go.Proofs.YtkgpnfjmahjlcaaDoor.Text Go.Proofs.YtkgpnfjmahjlcaaDoor.Wi Go.Proofs.YtkgpnfjmahjlcaaDoor.Open Go.Proofs.YtkgpnfjmahjlcaaDoor.Sq
set_option linter.unusedVariables false
set_option linter.unusedSimpArgs false
theorem wf_int {k : IntKind} {v : Int} (h : (Lit.int k v).wf = true) : k.min ≤ v ∧ v ≤ k.max := by simpa [Lit.wf] using h
theorem wf_u64 {v : Int} (h : (Lit.int .u64 v).wf = true) : u64 v := by
  have h := wf_int h
  rw [show IntKind.min .u64 = 0 by decide, show IntKind.max .u64 = 18446744073709551615 by decide] at h
  unfold u64; omega
theorem wf_i64 {v : Int} (h : (Lit.int .i64 v).wf = true) : i64 v := by
  have h := wf_int h
  rw [show IntKind.min .i64 = -9223372036854775808 by decide, show IntKind.max .i64 = 9223372036854775807 by decide] at h
  unfold i64; omega
theorem wf_u16 {v : Int} (h : (Lit.int .u16 v).wf = true) : 0 ≤ v ∧ v < 65536 := by
  have h := wf_int h
  rw [show IntKind.min .u16 = 0 by decide, show IntKind.max .u16 = 65535 by decide] at h
  omega
theorem few_of {x : S27} (h : G27 x) : Few x := by
  obtain ⟨_, _, _, _, _, _, _, _, ⟨_, g8⟩, ⟨_, g9⟩, ⟨_, g10⟩⟩ := h
  exact ⟨by omega, by omega, by omega⟩
theorem rng_of {x : S27} (h : G27 x) : Rng x := by
  obtain ⟨g0, g1, g2, _, _, g5, g6, g7, ⟨g8, _⟩, ⟨g9, _⟩, ⟨g10, _⟩⟩ := h
  exact ⟨wf_u64 g0, wf_u64 g1, wf_u64 g2, wf_i64 g5, wf_i64 g6, fun y hy => wf_i64 (g8 y hy).2.2.2.1, fun y hy => wf_i64 (g9 y hy).1, fun y hy => ⟨wf_u64 (g10 y hy).1, wf_u64 (g10 y hy).2⟩⟩
/-- The two boxes. -/
structure Tw (W w : World) (cs0 cs1 : Array Value) : Prop where
  bw : Below W.heap.size W w
  k0 : w.heap[W.heap.size]? = some (.cells cs0 27 (0, 0))
  k1 : w.heap[W.heap.size + 1]? = some (.cells cs1 27 (0, 0))
theorem Tw.next {W w w1 : World} {cs0 cs1 : Array Value} (h : Tw W w cs0 cs1) (hb : Below w.heap.size w w1) : Tw W w1 cs0 cs1 := ⟨below_step h.bw hb, block_below h.k0 hb, block_below h.k1 hb⟩
theorem bsame_w {w : World} {A B : Option Addr} {c d : Nat} {a b : List Int} (h1 : Kd.C (Kd.int .u8) w A a.length a) (hc : a.length ≤ c) (h2 : Kd.C (Kd.int .u8) w B b.length b) (hd : b.length ≤ d) (hl : a.length ≤ 140737488355328) :
    Calls Tryd.prog 11 #[.slice A a.length c, .slice B b.length d] w fun e w' => e = .returned (.bool (decide (a = b))) ∧ Below w.heap.size w w' := by
  refine (cambiumref01_Same.calls (a.length + 1) A c a B d b _ w h1 hc h2 hd (same_eq _ a b hl (by omega))).mono ?_
  rintro e w' ⟨rfl, hd⟩
  obtain ⟨n, rfl⟩ := hd
  exact ⟨rfl, pw_below_drewN (Below.refl _ _) n⟩
theorem C_take' {w : World} {A : Option Addr} {xs : List Int} {m : Nat} (h : Kd.C (Kd.int .u8) w A xs.length xs) (hm : m ≤ xs.length) : Kd.C (Kd.int .u8) w A (xs.take m).length (xs.take m) := Kd.C_take h hm
end Go.Proofs.YtkgpnfjmahjlcaaDoor.Walk
