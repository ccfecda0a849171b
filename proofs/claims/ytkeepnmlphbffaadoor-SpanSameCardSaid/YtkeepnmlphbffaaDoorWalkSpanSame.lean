/- Chapter 16's awake, and Small. -/
import Derived.Test.YtkeepnmlphbffaaDoorPSpx8
import Derived.Test.YtkeepnmlphbffaaDoorExtSpan
import Derived.Lib.ValidLaws
import Derived.Test.YtkeepnmlphbffaaDoorPSpx17
import Derived.Test.YtkeepnmlphbffaaDoorPSpx15
import Derived.Test.YtkeepnmlphbffaaDoorPSpx16
import Derived.Test.YtkeepnmlphbffaaDoorReads
namespace Go.Proofs.YtkeepnmlphbffaaDoor.Pure
open Go.RowKit Go.Proofs.YtkeepnmlphbffaaDoorW.PrintWords Go.Proofs.YtkeepnmlphbffaaDoorW.PrintLast Go.Proofs.YtkeepnmlphbffaaDoorW.PrintMore Go.Proofs.YtkeepnmlphbffaaDoor.Math
open Go.Proofs.YtkeepnmlphbffaaDoor.PSp Go.Proofs.YtkeepnmlphbffaaDoor.Runes Go.Proofs.YtkeepnmlphbffaaDoor.Text Go.Proofs.YtkeepnmlphbffaaDoor.Span
set_option linter.unusedVariables false
set_option linter.unusedSimpArgs false
theorem one_right (c : UInt8) (h : c.toNat < 127) (h2 : 32 ≤ c.toNat) : rightT (⟨#[c]⟩ : ByteArray) = true := by
  have hs : (⟨#[c]⟩ : ByteArray).size = 1 := rfl
  have hn : nb (⟨#[c]⟩ : ByteArray) 0 = c.toNat := rfl
  have hd : Utf8.decode (⟨#[c]⟩ : ByteArray) 0 = (c.toNat, 1) := by
    have e := Lib.decode_at (⟨#[c]⟩ : ByteArray) 0
    rw [e]
    unfold Lib.decodeN
    exact if_pos (show c.toNat < 128 by omega)
  have hr : runesI (⟨#[c]⟩ : ByteArray) = [(c.toNat : Int)] := by
    unfold runesI
    rw [from_lt (by rw [hs]; omega)]
    have hw : wd (⟨#[c]⟩ : ByteArray) 0 = 1 := by unfold wd; rw [hd]
    have hr : rn (⟨#[c]⟩ : ByteArray) 0 = c.toNat := by unfold rn; rw [hd]
    rw [hw, from_ge (by rw [hs]; omega), List.map_cons, hr]
    rfl
  have hv : Lib.validD [c] = true := by
    rw [Lib.validD_step _ (by simp), Lib.decodeL_ascii c [] (by omega)]
    rw [if_neg (by simp only; omega)]
    exact Lib.validD_nil
  unfold rightT
  rw [hr, show (⟨#[c]⟩ : ByteArray).data.toList = [c] from rfl, hv, Bool.true_and, List.all_cons, List.all_nil, Bool.and_true]
  unfold okI
  have h3 : ¬ (c.toNat : Int) < 32 := by omega
  have h4 : ¬ (c.toNat : Int) ≥ 127 := by omega
  rw [decide_eq_false h3, decide_eq_false h4]
  rfl
theorem name_eqS (s : ByteArray) : span_mayName.f s = some (nameB s) := by
  unfold span_mayName.f nameB
  split
  · rfl
  · split
    · rw [right_eq s (by omega)]
      rfl
    · rfl
theorem time_eqS (n : Int) : span_mayTime.f n = some (timeB n) := by
  unfold span_mayTime.f timeB
  split <;> rfl
theorem one_name (c : UInt8) (h : c.toNat < 127) (h2 : 32 ≤ c.toNat) : nameB (⟨#[c]⟩ : ByteArray) = true := by
  unfold nameB
  rw [if_neg (by rw [ByteArray.toList_eq]; exact List.cons_ne_nil _ _), if_pos (by show ((1 : Nat) : Int) ≤ 32; omega), one_right c h h2]
theorem awakeS (k : Nat) : cambiumlaw16_awake.f (k + 2) = some true := by
  have c1 : span_Compare.f 1 (⟨#[]⟩ : ByteArray) 7 false 1 (⟨#[]⟩ : ByteArray) 9 false = some (-1, true) := rfl
  have c2 : span_Compare.f 0 (⟨#[55]⟩ : ByteArray) 0 false 1 (⟨#[]⟩ : ByteArray) 9 false = some (0, false) := rfl
  have ht0 : timeB 0 = true := rfl
  have ht5 : timeB 5 = true := rfl
  have hat : span_mayAttrs.f (k + 1) ([] : List S43) = some true := by
    unfold span_mayAttrs.f
    rw [span_mayAttrs.l0, if_neg (by simp)]
    rfl
  have m1 : span_May.f (k + 2) 1 2 0 (⟨#[115]⟩ : ByteArray) (⟨#[111]⟩ : ByteArray) 0 5 0 ([] : List S43) ([] : List S59) ([] : List S62) = some true := by
    unfold span_May.f
    rw [if_neg (by omega), if_neg (by omega), if_neg (by omega), name_eqS, one_name 115 (by decide) (by decide), Option.bind_some, if_pos rfl, name_eqS, one_name 111 (by decide) (by decide), Option.bind_some,
      span_May.j0, time_eqS, ht0, Option.bind_some, if_pos rfl, time_eqS, ht5, Option.bind_some, if_pos rfl, if_pos (by omega), if_pos rfl, if_pos (by omega), hat, Option.bind_some, if_pos rfl]
    rfl
  have m2 : span_May.f (k + 2) 0 0 0 (⟨#[]⟩ : ByteArray) (⟨#[]⟩ : ByteArray) 0 0 0 ([] : List S43) ([] : List S59) ([] : List S62) = some false := by
    unfold span_May.f
    rw [if_pos rfl, span_May.j0, time_eqS, ht0, Option.bind_some, if_pos rfl, Option.bind_some, if_pos rfl, if_pos (by omega), if_neg Bool.false_ne_true]
  unfold cambiumlaw16_awake.f
  rw [c1, Option.bind_some, c2, Option.bind_some, m1, Option.bind_some, if_pos rfl, m2, Option.bind_some, if_neg Bool.false_ne_true, if_pos rfl, if_pos rfl, if_neg Bool.false_ne_true]
  have hw : wrap64 (0 + 5) = 5 := by unfold wrap64; omega
  unfold span_End.f
  rw [Option.bind_some, hw]
  rfl
theorem wsuc (i : Nat) (h : i ≤ 200000000000000) : wrap64 ((i : Int) + 1) = ((i + 1 : Nat) : Int) := by unfold wrap64; omega
theorem small_l1 (a b c : Int) (s o : ByteArray) (d e f : Int) (A : List S43) (E : List S59) (L : List S62) (hE : E.length ≤ 140737488351232) (n : Nat) :
    ∀ (k i : Nat) (x : Int), E.length - i ≤ n → n < k → ∃ r, cambiumref16_Small.l1 k x (i : Int) a b c s o d e f A E L = some r := by
  induction n with
  | zero =>
    intro k i x h hk
    obtain ⟨k, rfl⟩ : ∃ j, k = j + 1 := ⟨k - 1, by omega⟩
    exact ⟨_, by rw [cambiumref16_Small.l1, if_neg (by omega)]⟩
  | succ n ih =>
    intro k i x h hk
    obtain ⟨k, rfl⟩ : ∃ j, k = j + 1 := ⟨k - 1, by omega⟩
    by_cases hlt : i < E.length
    · rw [cambiumref16_Small.l1, if_pos (by omega)]
      by_cases hx : x ≤ 6000
      · rw [if_pos hx, if_pos (by omega), wsuc i (by omega)]
        exact ih k (i + 1) _ (by omega) (by omega)
      · exact ⟨_, by rw [if_neg hx]⟩
    · exact ⟨_, by rw [cambiumref16_Small.l1, if_neg (by omega)]⟩
theorem small_l0 (a b c : Int) (s o : ByteArray) (d e f : Int) (A : List S43) (E : List S59) (L : List S62) (hA : A.length ≤ 140737488351232) (hE : E.length ≤ 140737488351232) (n : Nat) :
    ∀ (k i : Nat) (x : Int), A.length - i ≤ n → n + E.length + 2 < k → ∃ r, cambiumref16_Small.l0 k x (i : Int) a b c s o d e f A E L = some r := by
  have hend : ∀ (k : Nat) (x : Int), E.length + 1 < k → ∃ r, cambiumref16_Small.j1 k x a b c s o d e f A E L = some r := by
    intro k x hk
    obtain ⟨k, rfl⟩ : ∃ j, k = j + 1 := ⟨k - 1, by omega⟩
    rw [cambiumref16_Small.j1]
    exact small_l1 a b c s o d e f A E L hE E.length k 0 x (by omega) (by omega)
  induction n with
  | zero =>
    intro k i x h hk
    obtain ⟨k, rfl⟩ : ∃ j, k = j + 1 := ⟨k - 1, by omega⟩
    rw [cambiumref16_Small.l0, if_neg (by omega)]
    exact hend k x (by omega)
  | succ n ih =>
    intro k i x h hk
    obtain ⟨k, rfl⟩ : ∃ j, k = j + 1 := ⟨k - 1, by omega⟩
    by_cases hlt : i < A.length
    · rw [cambiumref16_Small.l0, if_pos (by omega)]
      by_cases hx : x ≤ 6000
      · rw [if_pos hx, if_pos (by omega), wsuc i (by omega)]
        exact ih k (i + 1) _ (by omega) (by omega)
      · rw [if_neg hx]
        exact hend k x (by omega)
    · rw [cambiumref16_Small.l0, if_neg (by omega)]
      exact hend k x (by omega)
theorem small_some (k : Nat) (a b c : Int) (s o : ByteArray) (d e f : Int) (A : List S43) (E : List S59) (L : List S62) (hA : A.length ≤ 140737488351232) (hE : E.length ≤ 140737488351232) (hk : A.length + E.length + 3 < k) :
    ∃ r, cambiumref16_Small.f k a b c s o d e f A E L = some r := by
  unfold cambiumref16_Small.f
  exact small_l0 a b c s o d e f A E L hA hE A.length k 0 _ (by omega) (by omega)
end Go.Proofs.YtkeepnmlphbffaaDoor.Pure

namespace Go.Proofs.YtkeepnmlphbffaaDoor.Pure
open Go.RowKit Go.Proofs.YtkeepnmlphbffaaDoorW.PrintWords Go.Proofs.YtkeepnmlphbffaaDoorW.PrintLast Go.Proofs.YtkeepnmlphbffaaDoorW.PrintMore Go.Proofs.YtkeepnmlphbffaaDoor.Math
open Go.Proofs.YtkeepnmlphbffaaDoor.PSp Go.Proofs.YtkeepnmlphbffaaDoor.Runes Go.Proofs.YtkeepnmlphbffaaDoor.Text Go.Proofs.YtkeepnmlphbffaaDoor.Span
set_option linter.unusedVariables false
set_option linter.unusedSimpArgs false
/-- No two at one place differ. -/
def allSame {α : Type} (ne : α → α → Bool) : List α → List α → Bool
  | x :: t, y :: u => if ne x y = true then false else allSame ne t u
  | _, _ => true
theorem allSame_refl {α : Type} (ne : α → α → Bool) (h : ∀ x, ne x x = false) : ∀ l : List α, allSame ne l l = true := by
  intro l
  induction l with
  | nil => rfl
  | cons x t ih => rw [allSame, if_neg (by rw [h]; exact Bool.false_ne_true), ih]
def neA (x y : S43) : Bool := (!(x.f0.toList == y.f0.toList)) || ((!(x.f1.f0 == y.f1.f0)) || ((!(x.f1.f1.toList == y.f1.f1.toList)) || ((!(x.f1.f2 == y.f1.f2)) || (!(x.f1.f3 == y.f1.f3)))))
theorem neA_refl (x : S43) : neA x x = false := by unfold neA; simp
theorem eqA_l0 (l m : List S43) (hl : l.length ≤ 140737488351232) (hm : l.length = m.length) (n : Nat) : ∀ (k i : Nat), l.length - i ≤ n → n < k → api_Attr.l0 k l m (l.length : Int) (i : Int) = some (allSame neA (l.drop i) (m.drop i)) := by
  have hend : ∀ (k i : Nat), ¬ i < l.length → api_Attr.l0 (k + 1) l m (l.length : Int) (i : Int) = some (allSame neA (l.drop i) (m.drop i)) := by
    intro k i h
    rw [api_Attr.l0, if_neg (by omega), List.drop_eq_nil_of_le (by omega)]
    rfl
  induction n with
  | zero =>
    intro k i h hk
    obtain ⟨k, rfl⟩ : ∃ j, k = j + 1 := ⟨k - 1, by omega⟩
    exact hend k i (by omega)
  | succ n ih =>
    intro k i h hk
    obtain ⟨k, rfl⟩ : ∃ j, k = j + 1 := ⟨k - 1, by omega⟩
    by_cases hlt : i < l.length
    · have hx : rd_T43 l (i : Int) = l.getD i z43 := rfl
      have hy : rd_T43 m (i : Int) = m.getD i z43 := rfl
      rw [api_Attr.l0, if_pos (by omega), if_pos (by omega), if_pos (by omega), if_pos (by omega), hx, hy, drop_z (z := z43) hlt, drop_z (z := z43) (show i < m.length by omega), allSame, wsuc i (by omega), ih k (i + 1) (by omega) (by omega)]
      show (if neA (l.getD i z43) (m.getD i z43) = true then _ else _) = _
      split <;> rfl
    · exact hend k i hlt
def sameA (l m : List S43) : Bool := decide ((l.length : Int) = (m.length : Int)) && allSame neA l m
theorem sameA_eq (k : Nat) (l m : List S43) (hl : l.length ≤ 140737488351232) (hk : l.length < k) : api_Attr.f k l m = some (sameA l m) := by
  unfold api_Attr.f sameA
  by_cases h : (l.length : Int) = (m.length : Int)
  · rw [if_pos h, decide_eq_true h, Bool.true_and]
    exact eqA_l0 l m hl (by omega) l.length k 0 (by omega) hk
  · rw [if_neg h, decide_eq_false h, Bool.false_and]
def neE (x y : S59) : Bool := (!(x.f0 == y.f0)) || (!(x.f1.toList == y.f1.toList))
theorem neE_refl (x : S59) : neE x x = false := by unfold neE; simp
theorem eqE_l0 (l m : List S59) (hl : l.length ≤ 140737488351232) (hm : l.length = m.length) (n : Nat) : ∀ (k i : Nat), l.length - i ≤ n → n < k → api_Event.l0 k l m (l.length : Int) (i : Int) = some (allSame neE (l.drop i) (m.drop i)) := by
  have hend : ∀ (k i : Nat), ¬ i < l.length → api_Event.l0 (k + 1) l m (l.length : Int) (i : Int) = some (allSame neE (l.drop i) (m.drop i)) := by
    intro k i h
    rw [api_Event.l0, if_neg (by omega), List.drop_eq_nil_of_le (by omega)]
    rfl
  induction n with
  | zero =>
    intro k i h hk
    obtain ⟨k, rfl⟩ : ∃ j, k = j + 1 := ⟨k - 1, by omega⟩
    exact hend k i (by omega)
  | succ n ih =>
    intro k i h hk
    obtain ⟨k, rfl⟩ : ∃ j, k = j + 1 := ⟨k - 1, by omega⟩
    by_cases hlt : i < l.length
    · have hx : rd_T59 l (i : Int) = l.getD i z59 := rfl
      have hy : rd_T59 m (i : Int) = m.getD i z59 := rfl
      rw [api_Event.l0, if_pos (by omega), if_pos (by omega), if_pos (by omega), if_pos (by omega), hx, hy, drop_z (z := z59) hlt, drop_z (z := z59) (show i < m.length by omega), allSame, wsuc i (by omega), ih k (i + 1) (by omega) (by omega)]
      show (if neE (l.getD i z59) (m.getD i z59) = true then _ else _) = _
      split <;> rfl
    · exact hend k i hlt
def sameE (l m : List S59) : Bool := decide ((l.length : Int) = (m.length : Int)) && allSame neE l m
theorem sameE_eq (k : Nat) (l m : List S59) (hl : l.length ≤ 140737488351232) (hk : l.length < k) : api_Event.f k l m = some (sameE l m) := by
  unfold api_Event.f sameE
  by_cases h : (l.length : Int) = (m.length : Int)
  · rw [if_pos h, decide_eq_true h, Bool.true_and]
    exact eqE_l0 l m hl (by omega) l.length k 0 (by omega) hk
  · rw [if_neg h, decide_eq_false h, Bool.false_and]
def neL (x y : S62) : Bool := (!(x.f0 == y.f0)) || (!(x.f1 == y.f1))
theorem neL_refl (x : S62) : neL x x = false := by unfold neL; simp
theorem eqL_l0 (l m : List S62) (hl : l.length ≤ 140737488351232) (hm : l.length = m.length) (n : Nat) : ∀ (k i : Nat), l.length - i ≤ n → n < k → api_Link.l0 k l m (l.length : Int) (i : Int) = some (allSame neL (l.drop i) (m.drop i)) := by
  have hend : ∀ (k i : Nat), ¬ i < l.length → api_Link.l0 (k + 1) l m (l.length : Int) (i : Int) = some (allSame neL (l.drop i) (m.drop i)) := by
    intro k i h
    rw [api_Link.l0, if_neg (by omega), List.drop_eq_nil_of_le (by omega)]
    rfl
  induction n with
  | zero =>
    intro k i h hk
    obtain ⟨k, rfl⟩ : ∃ j, k = j + 1 := ⟨k - 1, by omega⟩
    exact hend k i (by omega)
  | succ n ih =>
    intro k i h hk
    obtain ⟨k, rfl⟩ : ∃ j, k = j + 1 := ⟨k - 1, by omega⟩
    by_cases hlt : i < l.length
    · have hx : rd_T62 l (i : Int) = l.getD i z62 := rfl
      have hy : rd_T62 m (i : Int) = m.getD i z62 := rfl
      rw [api_Link.l0, if_pos (by omega), if_pos (by omega), if_pos (by omega), if_pos (by omega), hx, hy, drop_z (z := z62) hlt, drop_z (z := z62) (show i < m.length by omega), allSame, wsuc i (by omega), ih k (i + 1) (by omega) (by omega)]
      show (if neL (l.getD i z62) (m.getD i z62) = true then _ else _) = _
      split <;> rfl
    · exact hend k i hlt
def sameL (l m : List S62) : Bool := decide ((l.length : Int) = (m.length : Int)) && allSame neL l m
theorem sameL_eq (k : Nat) (l m : List S62) (hl : l.length ≤ 140737488351232) (hk : l.length < k) : api_Link.f k l m = some (sameL l m) := by
  unfold api_Link.f sameL
  by_cases h : (l.length : Int) = (m.length : Int)
  · rw [if_pos h, decide_eq_true h, Bool.true_and]
    exact eqL_l0 l m hl (by omega) l.length k 0 (by omega) hk
  · rw [if_neg h, decide_eq_false h, Bool.false_and]
theorem refL_l (a b c : Int) (s o : ByteArray) (d e f : Int) (A : List S43) (E : List S59) (L : List S62) (a' b' c' : Int) (s' o' : ByteArray) (d' e' f' : Int) (A' : List S43) (E' : List S59) (L' : List S62) (hL : L.length ≤ 140737488351232) (hl : L.length = L'.length) (n : Nat) : ∀ (k i : Nat), L.length - i ≤ n → n < k →
    cambiumref16_Same.l2 k (i : Int) a b c s o d e f A E L a' b' c' s' o' d' e' f' A' E' L' = some (allSame neL (L.drop i) (L'.drop i)) := by
  have hend : ∀ (k i : Nat), ¬ i < L.length → 0 ≤ k → cambiumref16_Same.l2 (k + 1) (i : Int) a b c s o d e f A E L a' b' c' s' o' d' e' f' A' E' L' = some (allSame neL (L.drop i) (L'.drop i)) := by
    intro k i h hk
    rw [cambiumref16_Same.l2, if_neg (by omega), List.drop_eq_nil_of_le (by omega)]
    rfl
  induction n with
  | zero =>
    intro k i h hk
    obtain ⟨k, rfl⟩ : ∃ j, k = j + 1 := ⟨k - 1, by omega⟩
    exact hend k i (by omega) (by omega)
  | succ n ih =>
    intro k i h hk
    obtain ⟨k, rfl⟩ : ∃ j, k = j + 1 := ⟨k - 1, by omega⟩
    by_cases hlt : i < L.length
    · have hx : rd_T62 L (i : Int) = L.getD i z62 := rfl
      have hy : rd_T62 L' (i : Int) = L'.getD i z62 := rfl
      rw [cambiumref16_Same.l2, if_pos (by omega), if_pos (by omega), if_pos (by omega), hx, hy, drop_z (z := z62) hlt, drop_z (z := z62) (show i < L'.length by omega), allSame, wsuc i (by omega), ih k (i + 1) (by omega) (by omega)]
      show (if neL (L.getD i z62) (L'.getD i z62) = true then _ else _) = _
      split <;> rfl
    · exact hend k i hlt (by omega)
theorem refE_l (a b c : Int) (s o : ByteArray) (d e f : Int) (A : List S43) (E : List S59) (L : List S62) (a' b' c' : Int) (s' o' : ByteArray) (d' e' f' : Int) (A' : List S43) (E' : List S59) (L' : List S62) (hE : E.length ≤ 140737488351232) (he : E.length = E'.length) (hL : L.length ≤ 140737488351232) (hl : L.length = L'.length) (n : Nat) : ∀ (k i : Nat), E.length - i ≤ n → n + L.length + 1 < k →
    cambiumref16_Same.l1 k (i : Int) a b c s o d e f A E L a' b' c' s' o' d' e' f' A' E' L' = some ((allSame neE (E.drop i) (E'.drop i) && allSame neL L L')) := by
  have hend : ∀ (k i : Nat), ¬ i < E.length → L.length < k → cambiumref16_Same.l1 (k + 1) (i : Int) a b c s o d e f A E L a' b' c' s' o' d' e' f' A' E' L' = some ((allSame neE (E.drop i) (E'.drop i) && allSame neL L L')) := by
    intro k i h hk
    rw [cambiumref16_Same.l1, if_neg (by omega), List.drop_eq_nil_of_le (by omega), (show cambiumref16_Same.l2 k 0 a b c s o d e f A E L a' b' c' s' o' d' e' f' A' E' L' = _ from refL_l a b c s o d e f A E L a' b' c' s' o' d' e' f' A' E' L' hL hl L.length k 0 (by omega) (by omega))]
    rfl
  induction n with
  | zero =>
    intro k i h hk
    obtain ⟨k, rfl⟩ : ∃ j, k = j + 1 := ⟨k - 1, by omega⟩
    exact hend k i (by omega) (by omega)
  | succ n ih =>
    intro k i h hk
    obtain ⟨k, rfl⟩ : ∃ j, k = j + 1 := ⟨k - 1, by omega⟩
    by_cases hlt : i < E.length
    · have hx : rd_T59 E (i : Int) = E.getD i z59 := rfl
      have hy : rd_T59 E' (i : Int) = E'.getD i z59 := rfl
      rw [cambiumref16_Same.l1, if_pos (by omega), if_pos (by omega), if_pos (by omega), hx, hy, drop_z (z := z59) hlt, drop_z (z := z59) (show i < E'.length by omega), allSame, wsuc i (by omega), ih k (i + 1) (by omega) (by omega)]
      show (if neE (E.getD i z59) (E'.getD i z59) = true then _ else _) = _
      split <;> rfl
    · exact hend k i hlt (by omega)
theorem refA_l (a b c : Int) (s o : ByteArray) (d e f : Int) (A : List S43) (E : List S59) (L : List S62) (a' b' c' : Int) (s' o' : ByteArray) (d' e' f' : Int) (A' : List S43) (E' : List S59) (L' : List S62) (hA : A.length ≤ 140737488351232) (ha : A.length = A'.length) (hE : E.length ≤ 140737488351232) (he : E.length = E'.length) (hL : L.length ≤ 140737488351232) (hl : L.length = L'.length) (n : Nat) : ∀ (k i : Nat), A.length - i ≤ n → n + E.length + L.length + 2 < k →
    cambiumref16_Same.l0 k (i : Int) a b c s o d e f A E L a' b' c' s' o' d' e' f' A' E' L' = some ((allSame neA (A.drop i) (A'.drop i) && (allSame neE E E' && allSame neL L L'))) := by
  have hend : ∀ (k i : Nat), ¬ i < A.length → E.length + L.length + 1 < k → cambiumref16_Same.l0 (k + 1) (i : Int) a b c s o d e f A E L a' b' c' s' o' d' e' f' A' E' L' = some ((allSame neA (A.drop i) (A'.drop i) && (allSame neE E E' && allSame neL L L'))) := by
    intro k i h hk
    rw [cambiumref16_Same.l0, if_neg (by omega), List.drop_eq_nil_of_le (by omega), (show cambiumref16_Same.l1 k 0 a b c s o d e f A E L a' b' c' s' o' d' e' f' A' E' L' = _ from refE_l a b c s o d e f A E L a' b' c' s' o' d' e' f' A' E' L' hE he hL hl E.length k 0 (by omega) (by omega))]
    rfl
  induction n with
  | zero =>
    intro k i h hk
    obtain ⟨k, rfl⟩ : ∃ j, k = j + 1 := ⟨k - 1, by omega⟩
    exact hend k i (by omega) (by omega)
  | succ n ih =>
    intro k i h hk
    obtain ⟨k, rfl⟩ : ∃ j, k = j + 1 := ⟨k - 1, by omega⟩
    by_cases hlt : i < A.length
    · have hx : rd_T43 A (i : Int) = A.getD i z43 := rfl
      have hy : rd_T43 A' (i : Int) = A'.getD i z43 := rfl
      rw [cambiumref16_Same.l0, if_pos (by omega), if_pos (by omega), if_pos (by omega), hx, hy, drop_z (z := z43) hlt, drop_z (z := z43) (show i < A'.length by omega), allSame, wsuc i (by omega), ih k (i + 1) (by omega) (by omega)]
      show (if neA (A.getD i z43) (A'.getD i z43) = true then _ else _) = _
      split <;> rfl
    · exact hend k i hlt (by omega)
def headB (a b c : Int) (s o : ByteArray) (d e f : Int) (a' b' c' : Int) (s' o' : ByteArray) (d' e' f' : Int) : Prop := a = a' ∧ b = b' ∧ c = c' ∧ s.toList = s'.toList ∧ o.toList = o'.toList ∧ d = d' ∧ e = e' ∧ f = f'
theorem span_some (k : Nat) (a b c : Int) (s o : ByteArray) (d e f : Int) (A : List S43) (E : List S59) (L : List S62) (a' b' c' : Int) (s' o' : ByteArray) (d' e' f' : Int) (A' : List S43) (E' : List S59) (L' : List S62) (hA : A.length ≤ 140737488351232) (hE : E.length ≤ 140737488351232) (hL : L.length ≤ 140737488351232) (hk : A.length + E.length + L.length < k) :
    ∃ r, span_Same.f k a b c s o d e f A E L a' b' c' s' o' d' e' f' A' E' L' = some r ∧ (r = true ↔ headB a b c s o d e f a' b' c' s' o' d' e' f' ∧ (sameA A A' && (sameE E E' && sameL L L')) = true) := by
  unfold span_Same.f headB
  by_cases h0 : a = a'
  rotate_left
  · rw [if_neg h0]
    exact ⟨false, rfl, ⟨fun hh => (by cases hh), fun hh => absurd hh.1.1 h0⟩⟩
  by_cases h1 : b = b'
  rotate_left
  · rw [if_pos h0, if_neg h1]
    exact ⟨false, rfl, ⟨fun hh => (by cases hh), fun hh => absurd hh.1.2.1 h1⟩⟩
  by_cases h2 : c = c'
  rotate_left
  · rw [if_pos h0, if_pos h1, if_neg h2]
    exact ⟨false, rfl, ⟨fun hh => (by cases hh), fun hh => absurd hh.1.2.2.1 h2⟩⟩
  by_cases h3 : s.toList = s'.toList
  rotate_left
  · rw [if_pos h0, if_pos h1, if_pos h2, if_neg h3]
    exact ⟨false, rfl, ⟨fun hh => (by cases hh), fun hh => absurd hh.1.2.2.2.1 h3⟩⟩
  by_cases h4 : o.toList = o'.toList
  rotate_left
  · rw [if_pos h0, if_pos h1, if_pos h2, if_pos h3, if_neg h4]
    exact ⟨false, rfl, ⟨fun hh => (by cases hh), fun hh => absurd hh.1.2.2.2.2.1 h4⟩⟩
  by_cases h5 : d = d'
  rotate_left
  · rw [if_pos h0, if_pos h1, if_pos h2, if_pos h3, if_pos h4, if_neg h5]
    exact ⟨false, rfl, ⟨fun hh => (by cases hh), fun hh => absurd hh.1.2.2.2.2.2.1 h5⟩⟩
  by_cases h6 : e = e'
  rotate_left
  · rw [if_pos h0, if_pos h1, if_pos h2, if_pos h3, if_pos h4, if_pos h5, if_neg h6]
    exact ⟨false, rfl, ⟨fun hh => (by cases hh), fun hh => absurd hh.1.2.2.2.2.2.2.1 h6⟩⟩
  by_cases h7 : f = f'
  rotate_left
  · rw [if_pos h0, if_pos h1, if_pos h2, if_pos h3, if_pos h4, if_pos h5, if_pos h6, if_neg h7]
    exact ⟨false, rfl, ⟨fun hh => (by cases hh), fun hh => absurd hh.1.2.2.2.2.2.2.2 h7⟩⟩
  rw [if_pos h0, if_pos h1, if_pos h2, if_pos h3, if_pos h4, if_pos h5, if_pos h6, if_pos h7, sameA_eq k A A' hA (by omega), Option.bind_some]
  have hh : (a = a' ∧ b = b' ∧ c = c' ∧ s.toList = s'.toList ∧ o.toList = o'.toList ∧ d = d' ∧ e = e' ∧ f = f') := ⟨h0, h1, h2, h3, h4, h5, h6, h7⟩
  cases hsa : sameA A A' with
  | false =>
    rw [if_neg Bool.false_ne_true]
    exact ⟨false, rfl, ⟨fun h => (by cases h), fun h => (by cases h.2)⟩⟩
  | true =>
    rw [if_pos rfl, sameE_eq k E E' hE (by omega), Option.bind_some]
    cases hse : sameE E E' with
    | false =>
      rw [if_neg Bool.false_ne_true]
      exact ⟨false, rfl, ⟨fun h => (by cases h), fun h => (by cases h.2)⟩⟩
    | true =>
      rw [if_pos rfl, sameL_eq k L L' hL (by omega), Option.bind_some]
      exact ⟨_, rfl, ⟨fun h => ⟨hh, h⟩, fun h => h.2⟩⟩
theorem ref_some (k : Nat) (a b c : Int) (s o : ByteArray) (d e f : Int) (A : List S43) (E : List S59) (L : List S62) (a' b' c' : Int) (s' o' : ByteArray) (d' e' f' : Int) (A' : List S43) (E' : List S59) (L' : List S62) (hA : A.length ≤ 140737488351232) (hE : E.length ≤ 140737488351232) (hL : L.length ≤ 140737488351232) (hk : A.length + E.length + L.length + 4 < k) :
    ∃ r, cambiumref16_Same.f k a b c s o d e f A E L a' b' c' s' o' d' e' f' A' E' L' = some r ∧ (r = true ↔ headB a b c s o d e f a' b' c' s' o' d' e' f' ∧ (sameA A A' && (sameE E E' && sameL L L')) = true) := by
  obtain ⟨k, rfl⟩ : ∃ j, k = j + 1 := ⟨k - 1, by omega⟩
  have ht : cambiumref16_Same.j0 (k + 1) true a b c s o d e f A E L a' b' c' s' o' d' e' f' A' E' L' = some false := by rw [cambiumref16_Same.j0, if_pos rfl]
  unfold cambiumref16_Same.f headB
  by_cases h0 : a = a'
  rotate_left
  · rw [if_neg h0, ht]
    exact ⟨false, rfl, ⟨fun hh => (by cases hh), fun hh => absurd hh.1.1 h0⟩⟩
  by_cases h1 : b = b'
  rotate_left
  · rw [if_pos h0, if_neg h1, ht]
    exact ⟨false, rfl, ⟨fun hh => (by cases hh), fun hh => absurd hh.1.2.1 h1⟩⟩
  by_cases h2 : c = c'
  rotate_left
  · rw [if_pos h0, if_pos h1, if_neg h2, ht]
    exact ⟨false, rfl, ⟨fun hh => (by cases hh), fun hh => absurd hh.1.2.2.1 h2⟩⟩
  by_cases h3 : s.toList = s'.toList
  rotate_left
  · rw [if_pos h0, if_pos h1, if_pos h2, if_neg h3, ht]
    exact ⟨false, rfl, ⟨fun hh => (by cases hh), fun hh => absurd hh.1.2.2.2.1 h3⟩⟩
  by_cases h4 : o.toList = o'.toList
  rotate_left
  · rw [if_pos h0, if_pos h1, if_pos h2, if_pos h3, if_neg h4, ht]
    exact ⟨false, rfl, ⟨fun hh => (by cases hh), fun hh => absurd hh.1.2.2.2.2.1 h4⟩⟩
  by_cases h5 : d = d'
  rotate_left
  · rw [if_pos h0, if_pos h1, if_pos h2, if_pos h3, if_pos h4, if_neg h5, ht]
    exact ⟨false, rfl, ⟨fun hh => (by cases hh), fun hh => absurd hh.1.2.2.2.2.2.1 h5⟩⟩
  by_cases h6 : e = e'
  rotate_left
  · rw [if_pos h0, if_pos h1, if_pos h2, if_pos h3, if_pos h4, if_pos h5, if_neg h6, ht]
    exact ⟨false, rfl, ⟨fun hh => (by cases hh), fun hh => absurd hh.1.2.2.2.2.2.2.1 h6⟩⟩
  by_cases h7 : f = f'
  rotate_left
  · rw [if_pos h0, if_pos h1, if_pos h2, if_pos h3, if_pos h4, if_pos h5, if_pos h6, if_neg h7, ht]
    exact ⟨false, rfl, ⟨fun hh => (by cases hh), fun hh => absurd hh.1.2.2.2.2.2.2.2 h7⟩⟩
  have hh : (a = a' ∧ b = b' ∧ c = c' ∧ s.toList = s'.toList ∧ o.toList = o'.toList ∧ d = d' ∧ e = e' ∧ f = f') := ⟨h0, h1, h2, h3, h4, h5, h6, h7⟩
  rw [if_pos h0, if_pos h1, if_pos h2, if_pos h3, if_pos h4, if_pos h5, if_pos h6, if_pos h7]
  by_cases ha : (A.length : Int) = (A'.length : Int)
  rotate_left
  · rw [if_neg ha, ht]
    have hz : sameA A A' = false := by unfold sameA; rw [decide_eq_false ha, Bool.false_and]
    rw [hz]
    exact ⟨false, rfl, ⟨fun h => (by cases h), fun h => (by cases h.2)⟩⟩
  rw [if_pos ha]
  by_cases he : (E.length : Int) = (E'.length : Int)
  rotate_left
  · rw [if_neg he, ht]
    have hz : sameE E E' = false := by unfold sameE; rw [decide_eq_false he, Bool.false_and]
    rw [hz, Bool.false_and, Bool.and_false]
    exact ⟨false, rfl, ⟨fun h => (by cases h), fun h => (by cases h.2)⟩⟩
  rw [if_pos he]
  by_cases hl : (L.length : Int) = (L'.length : Int)
  rotate_left
  · have hb : ((L.length : Int) != (L'.length : Int)) = true := bne_iff_ne.mpr hl
    rw [hb, ht]
    have hz : sameL L L' = false := by unfold sameL; rw [decide_eq_false hl, Bool.false_and]
    rw [hz, Bool.and_false, Bool.and_false]
    exact ⟨false, rfl, ⟨fun h => (by cases h), fun h => (by cases h.2)⟩⟩
  have hb : ((L.length : Int) != (L'.length : Int)) = false := by rw [hl]; exact bne_self_eq_false _
  have sa : sameA A A' = allSame neA A A' := by unfold sameA; rw [decide_eq_true ha, Bool.true_and]
  have se : sameE E E' = allSame neE E E' := by unfold sameE; rw [decide_eq_true he, Bool.true_and]
  have sl : sameL L L' = allSame neL L L' := by unfold sameL; rw [decide_eq_true hl, Bool.true_and]
  rw [hb, cambiumref16_Same.j0, if_neg Bool.false_ne_true, sa, se, sl]
  have h := refA_l a b c s o d e f A E L a' b' c' s' o' d' e' f' A' E' L' hA (by omega) hE (by omega) hL (by omega) A.length k 0 (by omega) (by omega)
  refine ⟨_, h, ⟨fun h => ⟨hh, h⟩, fun h => h.2⟩⟩
theorem SpanSame (a b c : Int) (s o : ByteArray) (d e f : Int) (A : List S43) (E : List S59) (L : List S62) (a' b' c' : Int) (s' o' : ByteArray) (d' e' f' : Int) (A' : List S43) (E' : List S59) (L' : List S62) (hA : A.length ≤ 140737488351232) (hE : E.length ≤ 140737488351232) (hL : L.length ≤ 140737488351232) (hA' : A'.length ≤ 140737488351232) (hE' : E'.length ≤ 140737488351232) :
    ∃ k, cambiumlaw16_SpanSame.f k a b c s o d e f A E L a' b' c' s' o' d' e' f' A' E' L' = some true := by
  suffices hall : ∀ k, A.length + E.length + L.length + A'.length + E'.length + 10 ≤ k → cambiumlaw16_SpanSame.f (k + 1) a b c s o d e f A E L a' b' c' s' o' d' e' f' A' E' L' = some true from ⟨_, hall _ (Nat.le_refl _)⟩
  intro k hk
  have haw : cambiumlaw16_awake.f (k + 1) = some true := by
    have h := awakeS (k - 1)
    rw [show k - 1 + 2 = k + 1 by omega] at h
    exact h
  have ht : cambiumlaw16_SpanSame.j0 (k + 1) true a b c s o d e f A E L a' b' c' s' o' d' e' f' A' E' L' = some true := by rw [cambiumlaw16_SpanSame.j0, if_pos rfl]
  obtain ⟨r1, e1⟩ := small_some (k + 1) a b c s o d e f A E L hA hE (by omega)
  obtain ⟨r2, e2⟩ := small_some (k + 1) a' b' c' s' o' d' e' f' A' E' L' hA' hE' (by omega)
  unfold cambiumlaw16_SpanSame.f
  rw [haw, Option.bind_some, if_pos rfl, e1, Option.bind_some]
  cases r1 with
  | false => rw [if_neg Bool.false_ne_true, ht]
  | true =>
    rw [if_pos rfl, e2, Option.bind_some]
    cases r2 with
    | false => exact ht
    | true =>
      obtain ⟨x, ex, ix⟩ := span_some k a b c s o d e f A E L a' b' c' s' o' d' e' f' A' E' L' hA hE hL (by omega)
      obtain ⟨y, ey, iy⟩ := ref_some k a b c s o d e f A E L a' b' c' s' o' d' e' f' A' E' L' hA hE hL (by omega)
      obtain ⟨z, ez, iz⟩ := span_some k a b c s o d e f A E L a b c s o d e f A E L hA hE hL (by omega)
      have hxy : x = y := by cases x <;> cases y <;> simp_all
      have hz : z = true := by
        refine iz.mpr ⟨⟨rfl, rfl, rfl, rfl, rfl, rfl, rfl, rfl⟩, ?_⟩
        have sa : sameA A A = true := by unfold sameA; rw [decide_eq_true rfl, Bool.true_and, allSame_refl neA neA_refl]
        have se : sameE E E = true := by unfold sameE; rw [decide_eq_true rfl, Bool.true_and, allSame_refl neE neE_refl]
        have sl : sameL L L = true := by unfold sameL; rw [decide_eq_true rfl, Bool.true_and, allSame_refl neL neL_refl]
        rw [sa, se, sl]
        rfl
      show cambiumlaw16_SpanSame.j0 (k + 1) false a b c s o d e f A E L a' b' c' s' o' d' e' f' A' E' L' = some true
      rw [cambiumlaw16_SpanSame.j0, if_neg Bool.false_ne_true, ex, Option.bind_some, ey, Option.bind_some, hxy, if_pos (beq_self_eq_true y), ez, Option.bind_some, hz]
end Go.Proofs.YtkeepnmlphbffaaDoor.Pure

namespace Go.Proofs.YtkeepnmlphbffaaDoor.Walk
open Go.RowKit Go.Proofs.YtkeepnmlphbffaaDoorW.PrintWords Go.Proofs.YtkeepnmlphbffaaDoorW.PrintLast Go.Proofs.YtkeepnmlphbffaaDoorW.PrintMore Go.Proofs.YtkeepnmlphbffaaDoor.PSp Go.Proofs.YtkeepnmlphbffaaDoor.Open
set_option linter.unusedVariables false
theorem SpanSame (W : World) (x0 : S36) (cs0 : Array Value) (hk0 : k36.K W x0 cs0.toList) (hg0 : G36 x0) (x1 : S36) (cs1 : Array Value) (hk1 : k36.K W x1 cs1.toList) (hg1 : G36 x1) (hT : Tabs W) :
    Calls Tryd.prog 7 #[.agg cs0, .agg cs1] W fun e w' => e = .returned (.bool true) ∧ Below W.heap.size W w' := by
  obtain ⟨A8, c8, A9, c9, A10, c10, e0, ⟨l8, C8⟩, ⟨l9, C9⟩, ⟨l10, C10⟩⟩ := k36_open hk0
  obtain ⟨B8, d8, B9, d9, B10, d10, e1, ⟨m8, D8⟩, ⟨m9, D9⟩, ⟨m10, D10⟩⟩ := k36_open hk1
  obtain ⟨_, _, _, _, _, _, _, _, ⟨_, g8⟩, ⟨_, g9⟩, ⟨_, g10⟩⟩ := hg0
  obtain ⟨_, _, _, _, _, _, _, _, ⟨_, h8⟩, ⟨_, h9⟩, ⟨_, h10⟩⟩ := hg1
  obtain rfl := (Array.toArray_toList (xs := cs0)).symm.trans (congrArg List.toArray e0)
  obtain rfl := (Array.toArray_toList (xs := cs1)).symm.trans (congrArg List.toArray e1)
  obtain ⟨k, h⟩ := Pure.SpanSame x0.f0 x0.f1 x0.f2 x0.f3 x0.f4 x0.f5 x0.f6 x0.f7 x0.f8 x0.f9 x0.f10 x1.f0 x1.f1 x1.f2 x1.f3 x1.f4 x1.f5 x1.f6 x1.f7 x1.f8 x1.f9 x1.f10 (by omega) (by omega) (by omega) (by omega) (by omega)
  exact cambiumlaw16_SpanSame.calls k _ _ _ _ _ _ _ _ _ _ _ _ _ _ _ _ _ _ _ _ _ _ _ _ _ _ _ _ _ _ _ _ _ _ true W C8 l8 C9 l9 C10 l10 D8 m8 D9 m9 D10 m10 h hT
end Go.Proofs.YtkeepnmlphbffaaDoor.Walk
