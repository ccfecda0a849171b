/- The text package's tellings against the plain ones: Lower. -/
import Derived.Test.YtphimckceegiiaaDoorPTxtx7
import Derived.Test.YtphimckceegiiaaDoorRuns
import Derived.Test.YtphimckceegiiaaDoorTextLower
import Derived.Lib.ValidLaws
import Derived.Test.YtphimckceegiiaaDoorUtfCut
namespace Go.Proofs.YtphimckceegiiaaDoor.Tells
open Go.RowKit Go.Proofs.YtphimckceegiiaaDoorW.PrintWords Go.Proofs.YtphimckceegiiaaDoorW.PrintLast Go.Proofs.YtphimckceegiiaaDoorW.PrintMore Go.Proofs.YtphimckceegiiaaDoor.Math
open Go.Proofs.YtphimckceegiiaaDoor.PTxt Go.Proofs.YtphimckceegiiaaDoor.Runes Go.Proofs.YtphimckceegiiaaDoor.Text
set_option linter.unusedVariables false
set_option linter.unusedSimpArgs false
theorem str_size (l : List Int) : (strOfNums l).size = l.length := by
  unfold strOfNums
  simp [ByteArray.size]
theorem str_append (a b : List Int) : strOfNums a ++ strOfNums b = strOfNums (a ++ b) := by
  ext1
  simp [strOfNums]
theorem lower_l0 (s : ByteArray) (hs : s.size ≤ 1000000) (d : Nat) : ∀ (k i : Nat), s.size - i ≤ d → i ≤ s.size → d < k →
    cambiumref02_Lower.l0 k s (strOfNums (((bytesOf s).take i).map lowI)) (i : Int) = some (lowerB s) := by
  induction d with
  | zero =>
    intro k i h hi hk
    obtain ⟨k, rfl⟩ : ∃ j, k = j + 1 := ⟨k - 1, by omega⟩
    rw [cambiumref02_Lower.l0, if_neg (by omega), List.take_of_length_le (by rw [bytesOf_length]; omega)]
    rfl
  | succ d ih =>
    intro k i h hi hk
    obtain ⟨k, rfl⟩ : ∃ j, k = j + 1 := ⟨k - 1, by omega⟩
    by_cases hlt : i < s.size
    · have hr := bt_range s (i : Int)
      have e : ((bytesOf s).take (i + 1)).map lowI = ((bytesOf s).take i).map lowI ++ [lowI (bt s (i : Int))] := by
        rw [rd_take_succ (by rw [bytesOf_length]; exact hlt), List.map_append, rd_bytesOf]
        rfl
      have hn := ih k (i + 1) (by omega) (by omega) (by omega)
      rw [e] at hn
      have hw : wrap64 ((i : Int) + 1) = ((i + 1 : Nat) : Int) := by unfold wrap64; omega
      have hl : (((bytesOf s).take i).map lowI).length ≤ 1000000 := by rw [List.length_map, List.length_take, bytesOf_length]; omega
      rw [cambiumref02_Lower.l0, if_pos (by omega), if_pos (by omega), hw]
      simp only [Option.bind_some, str_append, str_size, List.length_cons, List.length_nil]
      have hz : (((bytesOf s).take i).map lowI).length + (0 + 1) ≤ 9223372036854775807 := by omega
      simp only [if_pos hz]
      have hlow : ∀ c, lowI (bt s (i : Int)) = c → cambiumref02_Lower.l0 k s (strOfNums (((bytesOf s).take i).map lowI ++ [c])) ((i + 1 : Nat) : Int) = some (lowerB s) := fun c hc => hc ▸ hn
      by_cases h1 : bt s (i : Int) ≥ 65
      · by_cases h2 : bt s (i : Int) ≤ 90
        · rw [if_pos h1, if_pos h2]
          exact hlow _ (by unfold lowI; rw [if_pos ⟨h1, h2⟩]; omega)
        · rw [if_pos h1, if_neg h2]
          exact hlow _ (by unfold lowI; rw [if_neg (by omega)])
      · rw [if_neg h1]
        exact hlow _ (by unfold lowI; rw [if_neg (by omega)])
    · rw [cambiumref02_Lower.l0, if_neg (by omega), List.take_of_length_le (by rw [bytesOf_length]; omega)]
      rfl
theorem lower_eq (k : Nat) (s : ByteArray) (hs : s.size ≤ 1000000) (hk : s.size < k) : cambiumref02_Lower.f k s = some (lowerB s) :=
  lower_l0 s hs s.size k 0 (by omega) (by omega) hk
theorem drop_ext (s : ByteArray) (i : Nat) : (⟨(s.data.toList.drop i).toArray⟩ : ByteArray) = s.extract i s.size := by
  ext1
  rw [ByteArray.data_extract]
  apply Array.ext'
  rw [Array.toList_extract]
  simp [List.extract_eq_take_drop, List.take_of_length_le]
theorem decL_drop (s : ByteArray) (i : Nat) : Lib.decodeL (s.data.toList.drop i) = (rn s i, wd s i) := by
  unfold Lib.decodeL
  rw [drop_ext, dec_extract]
  rfl
theorem valid_utf (s : ByteArray) : ∀ (d i : Nat), s.size - i ≤ d → Lib.validD (s.data.toList.drop i) = utfFrom s i := by
  intro d
  induction d with
  | zero =>
    intro i h
    have h0 : s.data.toList.drop i = [] := List.drop_eq_nil_of_le (by have := data_size s; rw [Array.length_toList]; omega)
    rw [h0, Lib.validD_nil]
    unfold utfFrom
    rw [from_ge (by omega)]
    rfl
  | succ d ih =>
    intro i h
    by_cases hlt : i < s.size
    · have hne : s.data.toList.drop i ≠ [] := by
        intro h0
        have := congrArg List.length h0
        rw [List.length_drop, Array.length_toList, data_size] at this
        simp at this
        omega
      have hb := dec_bounds s i hlt
      rw [Lib.validD_step _ hne, decL_drop, List.drop_drop, ih (i + wd s i) (by omega)]
      unfold utfFrom
      rw [from_lt hlt, List.all_cons]
      by_cases hc : rn s i = 65533 ∧ wd s i = 1
      · rw [if_pos hc]; simp [hc.1, hc.2]
      · rw [if_neg hc]
        have hc' : (rn s i == 65533 && wd s i == 1) = false := by
          rw [Bool.and_eq_false_iff, beq_eq_false_iff_ne, beq_eq_false_iff_ne]
          omega
        rw [hc']; rfl
    · have h0 : s.data.toList.drop i = [] := List.drop_eq_nil_of_le (by have := data_size s; rw [Array.length_toList]; omega)
      rw [h0, Lib.validD_nil]
      unfold utfFrom
      rw [from_ge hlt]
      rfl
theorem from_mem (s : ByteArray) : ∀ (d i p : Nat), p ∈ from_ s i → p < s.size := by
  intro d i p h
  obtain ⟨n, hn⟩ := List.mem_iff_getElem?.mp h
  exact (from_bound s n i p hn).2
theorem right_same (s : ByteArray) : (Lib.validD s.data.toList && (runesI s).all okI) = rightB s := by
  have h := valid_utf s s.size 0 (by omega)
  rw [List.drop_zero] at h
  rw [h]
  unfold rightB
  exact Bool.and_comm _ _
theorem rd_posI (s : ByteArray) (j p : Nat) (h : (from_ s 0)[j]? = some p) : rd (posI s) (j : Int) = (p : Int) := by
  unfold rd posI
  rw [Int.toNat_natCast, List.getD_eq_getElem?_getD, List.getElem?_map, h]
  rfl
theorem cut_eq (k : Nat) (s : ByteArray) (n : Int) (hs : s.size ≤ 1000000) (hk : s.size + 13 < k) : cambiumref02_Cut.f k s n = some (cutAt s n) := by
  have hl : (posI s).length = (from_ s 0).length := by unfold posI; rw [List.length_map]
  unfold cambiumref02_Cut.f
  rw [runes_eq k s hs hk]
  simp only [Option.bind_some]
  by_cases h1 : n < 1
  · rw [if_pos h1]
    have h0 : n.toNat = 0 := by omega
    unfold cutAt
    rw [h0]
    by_cases hz : 0 < s.size
    · rw [from_lt hz]
      show some _ = some (s.extract 0 0)
      congr 1
      ext1
      simp
    · rw [from_ge hz]
      show some _ = some s
      congr 1
      ext1
      have := data_size s
      exact (Array.eq_empty_of_size_eq_zero (by omega)).symm
  · rw [if_neg h1]
    by_cases h2 : n ≥ ((posI s).length : Int)
    · rw [if_pos h2]
      unfold cutAt
      rw [List.getElem?_eq_none (by omega)]
    · rw [if_neg h2, if_pos (by omega), if_pos (by omega)]
      have h3 : (from_ s 0)[n.toNat]? = some ((from_ s 0)[n.toNat]'(by omega)) := List.getElem?_eq_getElem _
      generalize (from_ s 0)[n.toNat]'(by omega) = p at h3
      have hr := rd_posI s n.toNat p h3
      rw [show ((n.toNat : Nat) : Int) = n by omega] at hr
      have hp : p < s.size := by
        have hm := List.mem_of_getElem? h3
        exact from_mem s s.size 0 p hm
      rw [hr, if_pos (by omega), if_pos (by omega)]
      unfold cutAt
      rw [h3]
      rfl
theorem texts_l0 (l : List ByteArray) (hl : l.length ≤ 1000000) (d : Nat) : ∀ (k i : Nat), l.length - i ≤ d → d < k → cambiumref02_Texts.l0 k l l (i : Int) = some true := by
  induction d with
  | zero =>
    intro k i h hk
    obtain ⟨k, rfl⟩ : ∃ j, k = j + 1 := ⟨k - 1, by omega⟩
    rw [cambiumref02_Texts.l0, if_neg (by omega)]
  | succ d ih =>
    intro k i h hk
    obtain ⟨k, rfl⟩ : ∃ j, k = j + 1 := ⟨k - 1, by omega⟩
    by_cases hlt : i < l.length
    · have hw : wrap64 ((i : Int) + 1) = ((i + 1 : Nat) : Int) := by unfold wrap64; omega
      rw [cambiumref02_Texts.l0, if_pos (by omega), if_pos (by omega), if_pos (by omega), if_pos rfl, hw]
      exact ih k (i + 1) (by omega) (by omega)
    · rw [cambiumref02_Texts.l0, if_neg (by omega)]
theorem texts_eq (k : Nat) (l : List ByteArray) (hl : l.length ≤ 1000000) (hk : l.length < k) : cambiumref02_Texts.f k l l = some true := by
  unfold cambiumref02_Texts.f
  rw [if_pos rfl]
  exact texts_l0 l hl l.length k 0 (by omega) hk
end Go.Proofs.YtphimckceegiiaaDoor.Tells
