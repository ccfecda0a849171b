/- TextItself: what it computes is true. -/
import Derived.Test.YtphimckceegiiaaDoorPTxtx10
import Derived.Test.YtphimckceegiiaaDoorItself
import Derived.Test.YtphimckceegiiaaDoorPureTextRunes
namespace Go.Proofs.YtphimckceegiiaaDoor.Pure
open Go.RowKit Go.Proofs.YtphimckceegiiaaDoorW.PrintWords Go.Proofs.YtphimckceegiiaaDoorW.PrintLast Go.Proofs.YtphimckceegiiaaDoorW.PrintMore Go.Proofs.YtphimckceegiiaaDoor.Math
open Go.Proofs.YtphimckceegiiaaDoor.PTxt Go.Proofs.YtphimckceegiiaaDoor.Runes Go.Proofs.YtphimckceegiiaaDoor.Text Go.Proofs.YtphimckceegiiaaDoor.Glob
set_option linter.unusedVariables false
set_option linter.unusedSimpArgs false
theorem awakeKI (k : Nat) : cambiumlaw02_awake.f (60 + k) = some true := by
  induction k with
  | zero => exact awake
  | succ k ih => exact cambiumlaw02_awake.mono _ _ ih
theorem runes_shortI (s : ByteArray) (n : Nat) (h : s.size ≤ n) : (runesI s).length ≤ n := by
  have := from_len s s.size 0 (by omega)
  unfold runesI
  rw [List.length_map]
  omega
theorem from_dropI (s : ByteArray) : ∀ (n i p : Nat), (from_ s i)[n]? = some p → from_ s p = (from_ s i).drop n := by
  intro n
  induction n with
  | zero =>
    intro i p h
    by_cases hi : i < s.size
    · have h' := h
      rw [from_lt hi] at h'; simp at h'; subst h'; rfl
    · rw [from_ge hi] at h; simp at h
  | succ n ih =>
    intro i p h
    by_cases hi : i < s.size
    · rw [from_lt hi, List.getElem?_cons_succ] at h
      rw [ih _ _ h]
      conv => rhs; rw [from_lt hi]
      rfl
    · rw [from_ge hi] at h; simp at h
theorem from_memI (s : ByteArray) (p : Nat) (h : p ∈ from_ s 0) : p < s.size := by
  obtain ⟨n, hn⟩ := List.mem_iff_getElem?.mp h
  have hd := from_dropI s n 0 p hn
  by_cases hp : p < s.size
  · exact hp
  · rw [from_ge hp] at hd
    have := List.drop_eq_nil_iff.mp hd.symm
    have h2 := (List.getElem?_eq_some_iff.mp hn).1
    omega
theorem rd_posII (s : ByteArray) (j p : Nat) (h : (from_ s 0)[j]? = some p) : rd (posI s) (j : Int) = (p : Int) := by
  unfold rd posI
  rw [Int.toNat_natCast, List.getD_eq_getElem?_getD, List.getElem?_map, h]
  rfl
theorem same_iff {r : Bool} {a b : List UInt8} (h : r = true ↔ b = a) : (r == (a == b)) = true := by
  have h2 : (a == b) = true ↔ b = a := by rw [beq_iff_eq]; exact eq_comm
  rw [beq_iff_eq]
  cases hr : r <;> cases hab : (a == b) <;> simp_all
theorem itself_l0 (s o : ByteArray) (hs : s.size ≤ 300) (ho : o.size ≤ 300) (us : utfFrom s 0 = true) (uo : utfFrom o 0 = true) (d : Nat) : ∀ (k j : Nat) (acc : ByteArray), (from_ s 0).length - j ≤ d → j ≤ (from_ s 0).length →
    acc.data.toList ++ esc s ((from_ s 0).drop j) = esc s (from_ s 0) → d + 3000000 < k → cambiumlaw02_TextItself.l0 k s o (posI s) acc (j : Int) = some true := by
  have hel := esc_len s s.size 0 (by omega) (Nat.zero_le _)
  have hfl := from_len s s.size 0 (by omega)
  have hpl : (posI s).length = (from_ s 0).length := by unfold posI; rw [List.length_map]
  have hend : ∀ (k j : Nat) (acc : ByteArray), j = (from_ s 0).length → acc.data.toList ++ esc s ((from_ s 0).drop j) = esc s (from_ s 0) → 3000000 ≤ k → cambiumlaw02_TextItself.l0 (k + 1) s o (posI s) acc (j : Int) = some true := by
    intro k j acc hj hacc hk
    rw [hj, List.drop_length, esc, List.append_nil] at hacc
    have hsz : acc.size ≤ 600 := by rw [size_list, hacc]; omega
    have hr : runesI acc = inter (runesI s) := esc_runes s acc s.size 0 0 (by omega) (utf_good s us) (Nat.zero_le _) (by rw [List.drop_zero]; exact hacc)
    have hsg : signsL false (runesI acc) = (runesI s).map (fun r => (⟨r, false, false⟩ : S44)) := by rw [hr, inter_signs]
    have hrs := runes_shortI s 300 hs
    have hro := runes_shortI o 300 ho
    have hgl : (signsL false (runesI acc)).length ≤ 701 := by rw [hsg, List.length_map]; omega
    obtain ⟨r1, e1, i1⟩ := match_is k acc s (by omega) (by omega) hgl (by omega) hk
    obtain ⟨r2, e2, i2⟩ := match_is k acc o (by omega) (by omega) hgl (by omega) hk
    rw [hsg, gm_plain] at i1 i2
    have hr1 : r1 = true := i1.mpr rfl
    have hr2 : r2 = true ↔ o.toList = s.toList := by
      rw [i2, ByteArray.toList_eq, ByteArray.toList_eq]
      constructor
      · intro h; exact utf_inj o s uo us h
      · intro h
        have : o = s := by ext1; exact Array.ext' h
        rw [this]
    rw [cambiumlaw02_TextItself.l0, if_neg (by omega), e1, Option.bind_some, if_pos hr1, e2, Option.bind_some, same_iff hr2]
  induction d with
  | zero =>
    intro k j acc h hj hacc hk
    obtain ⟨k, rfl⟩ : ∃ m, k = m + 1 := ⟨k - 1, by omega⟩
    exact hend k j acc (by omega) hacc (by omega)
  | succ d ih =>
    intro k j acc h hj hacc hk
    obtain ⟨k, rfl⟩ : ∃ m, k = m + 1 := ⟨k - 1, by omega⟩
    by_cases hlt : j < (from_ s 0).length
    · have hp : (from_ s 0)[j]? = some ((from_ s 0)[j]'hlt) := List.getElem?_eq_getElem hlt
      generalize (from_ s 0)[j]'hlt = p at hp
      have hps : p < s.size := from_memI s p (List.mem_of_getElem? hp)
      have hw := dec_bounds s p hps
      have hrd := rd_posII s j p hp
      have hfd := from_dropI s j 0 p hp
      have hdj : (from_ s 0).drop j = p :: (from_ s 0).drop (j + 1) := by
        rw [List.drop_eq_getElem_cons hlt]
        have : (from_ s 0)[j]'hlt = p := Option.some.inj ((List.getElem?_eq_getElem hlt).symm.trans hp)
        rw [this]
      have hnext : from_ s (p + wd s p) = (from_ s 0).drop (j + 1) := by
        rw [hdj, from_lt hps, List.cons.injEq] at hfd
        exact hfd.2
      have hsz : acc.size ≤ 600 := by
        have := congrArg List.length hacc
        rw [List.length_append, ← size_list] at this
        omega
      have h92 : (⟨#[92]⟩ : ByteArray).size = 1 := rfl
      have hacc2 : (acc ++ (⟨#[92]⟩ : ByteArray) ++ s.extract p (p + wd s p)).data.toList ++ esc s ((from_ s 0).drop (j + 1)) = esc s (from_ s 0) := by
        rw [← hacc, hdj, esc, ByteArray.data_append, ByteArray.data_append, Array.toList_append, Array.toList_append, seg8_ext]
        simp
      have hs1 : acc.size + 1 ≤ 9223372036854775807 := by omega
      have hs2 : ∀ e, (acc ++ (⟨#[92]⟩ : ByteArray)).size + (s.extract p e).size ≤ 9223372036854775807 := fun e => by rw [ByteArray.size_append, ByteArray.size_extract, h92]; omega
      have hgo := ih k (j + 1) _ (by omega) (by omega) hacc2 (by omega)
      rw [cambiumlaw02_TextItself.l0, if_pos (by omega), wsucc j (by omega)]
      by_cases hl2 : j + 1 < (from_ s 0).length
      · have hp2 : (from_ s 0)[j + 1]? = some (p + wd s p) := by
          have hlt2 : p + wd s p < s.size := by
            apply Classical.byContradiction
            intro hn
            rw [from_ge hn] at hnext
            have := List.drop_eq_nil_iff.mp hnext.symm
            omega
          rw [from_lt hlt2] at hnext
          have := congrArg (fun l => l[0]?) hnext
          simp only [List.getElem?_cons_zero, List.getElem?_drop] at this
          exact this.symm
        have hrd2 := rd_posII s (j + 1) _ hp2
        rw [if_pos (by omega), if_pos (by omega), if_pos hs1, if_pos (by omega), hrd, hrd2, if_pos (by omega), if_pos (by omega), if_pos (by omega), Int.toNat_natCast, Int.toNat_natCast, if_pos (hs2 _)]
        exact hgo
      · have hend2 : p + wd s p = s.size := by
          have hnil : from_ s (p + wd s p) = [] := by rw [hnext]; exact List.drop_eq_nil_of_le (by omega)
          by_cases hlt2 : p + wd s p < s.size
          · rw [from_lt hlt2] at hnil; cases hnil
          · omega
        rw [if_neg (by omega), if_pos hs1, if_pos (by omega), hrd, if_pos (by omega), if_pos (by omega), if_pos (by omega), Int.toNat_natCast, Int.toNat_natCast, if_pos (hs2 _), ← hend2]
        exact hgo
    · exact hend k j acc (by omega) hacc (by omega)
theorem itself_j0 (k : Nat) (s o : ByteArray) (hs : s.size ≤ 300) (ho : o.size ≤ 300) (us : utfFrom s 0 = true) (uo : utfFrom o 0 = true) (hk : 3100000 ≤ k) : cambiumlaw02_TextItself.j0 (k + 1) s o false = some true := by
  have hfl := from_len s s.size 0 (by omega)
  rw [cambiumlaw02_TextItself.j0, if_neg Bool.false_ne_true, runes_eq k s (by omega) (by omega), Option.bind_some]
  exact itself_l0 s o hs ho us uo (from_ s 0).length k 0 _ (by omega) (Nat.zero_le _) (by rw [List.drop_zero]; rfl) (by omega)
theorem TextItself : cambiumlaw02_TextItself.Pure := by
  intro s o _ _
  suffices hall : ∀ k, 3100000 ≤ k → cambiumlaw02_TextItself.f (k + 1) s o = some true from ⟨3100000 + 1, hall 3100000 (Nat.le_refl _)⟩
  intro kk hkk
  have haw : cambiumlaw02_awake.f (kk + 1) = some true := by
    have h := awakeKI (kk - 59)
    rw [show 60 + (kk - 59) = kk + 1 by omega] at h
    exact h
  have ht : cambiumlaw02_TextItself.j0 (kk + 1) s o true = some true := by rw [cambiumlaw02_TextItself.j0, if_pos rfl]
  unfold cambiumlaw02_TextItself.f
  rw [haw, Option.bind_some, if_pos rfl]
  clear haw
  by_cases h1 : (s.size : Int) > 300
  · rw [if_pos h1, ht]
  · rw [if_neg h1]
    by_cases h2 : (o.size : Int) > 300
    · rw [if_pos h2, ht]
    · rw [if_neg h2, utf_eq (kk + 1) s (by omega) (by omega), Option.bind_some]
      cases us : utfFrom s 0 with
      | false => rw [if_neg Bool.false_ne_true, ht]
      | true =>
        rw [if_pos rfl, utf_eq (kk + 1) o (by omega) (by omega), Option.bind_some]
        cases uo : utfFrom o 0 with
        | false => exact ht
        | true => exact itself_j0 kk s o (by omega) (by omega) us uo hkk
end Go.Proofs.YtphimckceegiiaaDoor.Pure
