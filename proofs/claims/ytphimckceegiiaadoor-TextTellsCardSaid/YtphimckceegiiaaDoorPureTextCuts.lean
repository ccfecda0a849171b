/- TextCuts: what it computes is true. -/
import Derived.Test.YtphimckceegiiaaDoorPTxtx6
import Derived.Test.YtphimckceegiiaaDoorUtfCut
import Derived.Test.YtphimckceegiiaaDoorRuns
import Derived.Test.YtphimckceegiiaaDoorPureTextRunes
namespace Go.Proofs.YtphimckceegiiaaDoor.Pure
open Go.RowKit Go.Proofs.YtphimckceegiiaaDoorW.PrintWords Go.Proofs.YtphimckceegiiaaDoorW.PrintLast Go.Proofs.YtphimckceegiiaaDoorW.PrintMore Go.Proofs.YtphimckceegiiaaDoor.Math
open Go.Proofs.YtphimckceegiiaaDoor.PTxt Go.Proofs.YtphimckceegiiaaDoor.Runes Go.Proofs.YtphimckceegiiaaDoor.Text
set_option linter.unusedVariables false
set_option linter.unusedSimpArgs false
theorem awakeK (k : Nat) : cambiumlaw02_awake.f (60 + k) = some true := by
  induction k with
  | zero => exact awake
  | succ k ih => exact cambiumlaw02_awake.mono _ _ ih
theorem from_drop (s : ByteArray) : ∀ (n i p : Nat), (from_ s i)[n]? = some p → from_ s p = (from_ s i).drop n := by
  intro n
  induction n with
  | zero =>
    intro i p h
    by_cases hi : i < s.size
    · have h' := h
      rw [from_lt hi] at h'; simp at h'; subst h'; rfl
    · rw [from_ge hi] at h; simp at h
  | succ n ih =>
    intro i p h
    by_cases hi : i < s.size
    · rw [from_lt hi, List.getElem?_cons_succ] at h
      rw [ih _ _ h]
      conv => rhs; rw [from_lt hi]
      rfl
    · rw [from_ge hi] at h; simp at h
theorem from_rest (s : ByteArray) (p : Nat) : ∀ (d i : Nat), s.size - (p + i) ≤ d → (from_ (s.extract p s.size) i).length = (from_ s (p + i)).length := by
  intro d
  induction d with
  | zero =>
    intro i h
    rw [from_ge (by rw [extract_size]; omega), from_ge (by omega)]
  | succ d ih =>
    intro i h
    by_cases hi : p + i < s.size
    · have hb := dec_bounds s (p + i) hi
      have hw : wd (s.extract p s.size) i = wd s (p + i) := by
        unfold wd
        congr 1
        rw [Lib.decode_at, Lib.decode_at, extract_size]
        have e : ∀ j, ((s.extract p s.size).get! j).toNat = (s.get! (p + j)).toNat := fun j => nb_extract s p j
        rw [e, e, e, e, show s.size - p - i = s.size - (p + i) by omega]
        rfl
      rw [from_lt (by rw [extract_size]; omega), from_lt hi, hw, List.length_cons, List.length_cons, ih (i + wd s (p + i)) (by omega), Nat.add_assoc]
    · rw [from_ge (by rw [extract_size]; omega), from_ge hi]
theorem whole (s : ByteArray) : s.extract 0 s.size = s := by
  ext1
  rw [ByteArray.data_extract]
  exact Array.extract_size
/-- What a cut is. -/
theorem cut_is (s : ByteArray) (n : Int) : ∃ p, p ≤ s.size ∧ cutAt s n = s.extract 0 p ∧ from_ (cutAt s n) 0 = (from_ s 0).take n.toNat ∧ from_ s p = (from_ s 0).drop n.toNat ∧
    (∀ q, (from_ s 0)[n.toNat]? = some q → q = p) ∧ ((from_ s 0)[n.toNat]? = none → cutAt s n = s) := by
  unfold cutAt
  cases h : (from_ s 0)[n.toNat]? with
  | some p =>
    have hb := from_bound s _ _ _ h
    exact ⟨p, by omega, rfl, from_take s _ _ p (by omega) h, from_drop s _ _ p h, fun q hq => (Option.some.inj hq).symm, fun h => by cases h⟩
  | none =>
    have hl := List.getElem?_eq_none_iff.mp h
    exact ⟨s.size, Nat.le_refl _, (whole s).symm, (List.take_of_length_le hl).symm, by rw [from_ge (by omega), List.drop_of_length_le hl], fun q hq => (by cases hq), fun _ => rfl⟩
theorem cut_some (s : ByteArray) (n : Int) (p : Nat) (h : (from_ s 0)[n.toNat]? = some p) : cutAt s n = s.extract 0 p := by
  unfold cutAt
  rw [h]
theorem cut_none (s : ByteArray) (n : Int) (h : (from_ s 0)[n.toNat]? = none) : cutAt s n = s := by
  unfold cutAt
  rw [h]
theorem cut_cut (s : ByteArray) (n m : Int) (hn : 0 ≤ n) (hm : 0 ≤ m) : cutAt (cutAt s n) m = cutAt s (min n m) := by
  obtain ⟨p, hp, hc, hf, hd, hq, hw⟩ := cut_is s n
  cases h : (from_ s 0)[n.toNat]? with
  | none =>
    rw [hw h]
    have hl := List.getElem?_eq_none_iff.mp h
    by_cases hmn : m ≤ n
    · rw [Int.min_eq_right hmn]
    · rw [Int.min_eq_left (by omega), hw h]
      exact cut_none s m (List.getElem?_eq_none_iff.mpr (by omega))
  | some q =>
    obtain rfl := hq q h
    by_cases hmn : m < n
    · rw [Int.min_eq_right (by omega)]
      have hlt := (List.getElem?_eq_some_iff.mp h).1
      have h2 : (from_ s 0)[m.toNat]? = some ((from_ s 0)[m.toNat]'(by omega)) := List.getElem?_eq_getElem _
      generalize (from_ s 0)[m.toNat]'(by omega) = p2 at h2
      have h3 : (from_ (cutAt s n) 0)[m.toNat]? = some p2 := by
        rw [hf, List.getElem?_take_of_lt (by omega), h2]
      have hle : p2 ≤ q := by
        have h4 := from_drop s _ _ p2 h2
        have h5 : (from_ s p2)[n.toNat - m.toNat]? = some q := by
          rw [h4, List.getElem?_drop, show m.toNat + (n.toNat - m.toNat) = n.toNat by omega, h]
        exact (from_bound s _ _ _ h5).1
      have e1 := cut_some (cutAt s n) m p2 h3
      have e2 := cut_some s m p2 h2
      rw [e1, e2, hc]
      ext1
      simp only [ByteArray.data_extract, Array.extract_extract]
      congr 1
      omega
    · rw [Int.min_eq_left (by omega)]
      exact cut_none (cutAt s n) m (by rw [hf]; exact List.getElem?_eq_none_iff.mpr (by rw [List.length_take]; omega))
theorem mn_min (a b : Int) : mn a b = min a b := by
  unfold mn
  split <;> omega
theorem u16_bounds {a : Int} (h : (Lit.int .u16 a).wf = true) : 0 ≤ a ∧ a ≤ 65535 := by
  have h0 : IntKind.u16.min ≤ a ∧ a ≤ IntKind.u16.max := by simpa [Lit.wf] using h
  exact h0
theorem w64 {a : Int} (h0 : -9223372036854775808 ≤ a) (h1 : a ≤ 9223372036854775807) : wrap64 a = a := by unfold wrap64; omega
theorem text_len_of (t : ByteArray) (ht : t.size ≤ 600) : text_Len.f t = some ((from_ t 0).length : Int) := by
  unfold text_Len.f
  rw [if_pos (by omega)]
theorem sum_wrap (j L : Nat) (hj : j ≤ 65535) (hL : L ≤ 600) : wrap64 (((min j L : Nat) : Int) + ((L - j : Nat) : Int)) = (L : Int) := by
  rw [w64 (by omega) (by omega)]
  omega
theorem cut_len (s : ByteArray) (n : Int) : (from_ (cutAt s n) 0).length = min n.toNat (from_ s 0).length := by
  obtain ⟨p, hp, hc, hf, hd, _, _⟩ := cut_is s n
  rw [hf, List.length_take]
theorem cut_rest (s : ByteArray) (n : Int) : (from_ (s.extract (cutAt s n).size s.size) 0).length = (from_ s 0).length - n.toNat := by
  obtain ⟨p, hp, hc, hf, hd, _, _⟩ := cut_is s n
  rw [hc, take_size s p hp, from_rest s p s.size 0 (by omega), Nat.add_zero, hd, List.length_drop]
theorem cut_size (s : ByteArray) (n : Int) : (cutAt s n).size ≤ s.size := by
  obtain ⟨p, hp, hc, hf, hd, _, _⟩ := cut_is s n
  rw [hc, take_size s p hp]
  exact hp
theorem cut_head (s : ByteArray) (n : Int) : s.extract 0 (cutAt s n).size = cutAt s n := by
  obtain ⟨p, hp, hc, hf, hd, _, _⟩ := cut_is s n
  rw [hc, take_size s p hp]
theorem toNat_nat (m : Nat) : ((m : Nat) : Int).toNat = m := rfl
theorem j0_true (s : ByteArray) (n : Int) (hn0 : 0 ≤ n) (hn1 : n ≤ 65535) (hs : s.size ≤ 600) (k : Nat) (hk : s.size + 13 < k) : cambiumlaw02_TextCuts.j0 (k + 1) s n (cutAt s n) false = some true := by
  have hcs := cut_size s n
  have hlen : (from_ s 0).length ≤ s.size := by have := from_len s s.size 0 (by omega); omega
  rw [cambiumlaw02_TextCuts.j0, if_neg (by simp), utf_eq k s (by omega) hk]
  simp only [Option.bind_some]
  refine ite_t (fun _ => ?_) (fun _ => rfl)
  rw [toNat_nat, text_len_of (cutAt s n) (by omega), text_len_of s hs, text_len_of (s.extract (cutAt s n).size s.size) (by rw [extract_size]; omega)]
  simp only [Option.bind_some]
  rw [if_pos (by omega), if_pos (by omega), cut_len, cut_rest, sum_wrap _ _ (by omega) (by omega), if_pos rfl, w64 (by omega) (by omega), mn_min]
  have e3 : ((min n.toNat (from_ s 0).length : Nat) : Int) = min n ((from_ s 0).length : Int) := by omega
  rw [e3, beq_self_eq_true]
set_option maxHeartbeats 1000000 in
theorem TextCuts : cambiumlaw02_TextCuts.Pure := by
  intro s n m _ hn hm
  have hn := u16_bounds hn
  have hm := u16_bounds hm
  suffices hall : ∀ k, 700 ≤ k → cambiumlaw02_TextCuts.f (k + 1) s n m = some true from ⟨701, hall 700 (Nat.le_refl _)⟩
  intro kk hkk
  have haw : cambiumlaw02_awake.f (kk + 1) = some true := by
    have h := awakeK (kk - 59)
    rw [show 60 + (kk - 59) = kk + 1 by omega] at h
    exact h
  unfold cambiumlaw02_TextCuts.f
  rw [haw, w64 (by omega) (by omega), w64 (by omega) (by omega)]
  clear haw
  simp only [Option.bind_some, if_true]
  refine ite_t (fun _ => rfl) (fun hsz => ?_)
  have hs : s.size ≤ 600 := by omega
  have hmn : min n m = n ∨ min n m = m := by omega
  have hlen : (from_ s 0).length ≤ s.size := by have := from_len s s.size 0 (by omega); omega
  obtain ⟨p, hp, hc, hf, hd, _, _⟩ := cut_is s n
  have hcs : (cutAt s n).size = p := by rw [hc, take_size s p hp]
  have hL : ∀ t : ByteArray, t.size ≤ 600 → text_Len.f t = some ((from_ t 0).length : Int) := fun t ht => by unfold text_Len.f; rw [if_pos (by omega)]
  have hC : ∀ (t : ByteArray) (x : Int), t.size ≤ 600 → 0 ≤ x → x ≤ 65535 → text_Cut.f t x = some (cutAt t x) := fun t x ht h0 h1 => by
    unfold text_Cut.f
    rw [if_pos (by omega)]
  rw [hC s n hs (by omega) (by omega)]
  simp only [Option.bind_some]
  rw [hC (cutAt s n) m (by omega) (by omega) (by omega), mn_min, hC s (min n m) hs (by omega) (by omega), cut_cut s n m hn.1 hm.1]
  simp only [Option.bind_some, if_true]
  rw [hL s hs]
  simp only [Option.bind_some]
  rw [hC s _ hs (by omega) (by omega), cut_none s _ (List.getElem?_eq_none_iff.mpr (by omega))]
  simp only [Option.bind_some, if_true]
  rw [if_neg (by omega), if_pos (by omega), if_pos (by omega)]
  rw [toNat_nat, cut_head, bne_self_eq_false]
  exact j0_true s n hn.1 hn.2 hs kk (by omega)
end Go.Proofs.YtphimckceegiiaaDoor.Pure
