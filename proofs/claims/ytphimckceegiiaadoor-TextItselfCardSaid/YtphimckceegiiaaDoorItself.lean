/- A text with an escape ahead of each rune: its runes; and texts in UTF-8 with the same runes are the same. -/
import Derived.Test.YtphimckceegiiaaDoorGlobRef
namespace Go.Proofs.YtphimckceegiiaaDoor.Glob
open Go.RowKit Go.Proofs.YtphimckceegiiaaDoorW.PrintWords Go.Proofs.YtphimckceegiiaaDoorW.PrintLast Go.Proofs.YtphimckceegiiaaDoorW.PrintMore Go.Proofs.YtphimckceegiiaaDoor.Math
open Go.Proofs.YtphimckceegiiaaDoor.PTxt Go.Proofs.YtphimckceegiiaaDoor.Runes Go.Proofs.YtphimckceegiiaaDoor.Text
set_option linter.unusedVariables false
set_option linter.unusedSimpArgs false
def Bad (d : Nat × Nat) : Prop := d.1 = 65533 ∧ d.2 = 1
/-- A rune that belongs to its bytes is told by them alone. -/
theorem dec_same (n n' b0 b1 b2 b3 c1 c2 c3 : Nat) (d : Nat × Nat) (hd : Lib.decodeN n b0 b1 b2 b3 = d) (hv : ¬ Bad d) (h1 : 1 < d.2 → c1 = b1 ∧ 1 < n') (h2 : 2 < d.2 → c2 = b2 ∧ 2 < n') (h3 : 3 < d.2 → c3 = b3 ∧ 3 < n') :
    Lib.decodeN n' b0 c1 c2 c3 = d := by
  unfold Lib.decodeN at hd
  split at hd
  · rename_i ha
    unfold Lib.decodeN
    rw [if_pos ha]
    exact hd
  rename_i ha
  split at hd
  · rename_i hb
    split at hd
    · rename_i hc
      subst hd
      obtain ⟨rfl, g1⟩ := h1 (by decide : (1 : Nat) < 2)
      unfold Lib.decodeN
      rw [if_neg ha, if_pos ⟨hb.1, g1, hb.2.2⟩, if_pos hc]
    · subst hd
      exact absurd ⟨rfl, rfl⟩ hv
  rename_i hb
  split at hd
  · rename_i hb2
    split at hd
    · rename_i hc
      subst hd
      obtain ⟨rfl, g1⟩ := h1 (by decide : (1 : Nat) < 3)
      obtain ⟨rfl, g2⟩ := h2 (by decide : (2 : Nat) < 3)
      unfold Lib.decodeN
      rw [if_neg ha, if_neg (by omega), if_pos ⟨hb2.1, ⟨g1, hb2.2.1.2⟩, g2, hb2.2.2.2⟩, if_pos hc]
    · subst hd
      exact absurd ⟨rfl, rfl⟩ hv
  rename_i hb2
  split at hd
  · rename_i hb3
    split at hd
    · rename_i hc
      subst hd
      obtain ⟨rfl, g1⟩ := h1 (by decide : (1 : Nat) < 4)
      obtain ⟨rfl, g2⟩ := h2 (by decide : (2 : Nat) < 4)
      obtain ⟨rfl, g3⟩ := h3 (by decide : (3 : Nat) < 4)
      unfold Lib.decodeN
      rw [if_neg ha, if_neg (by omega), if_neg (by omega), if_pos ⟨hb3.1, ⟨g1, hb3.2.1.2⟩, ⟨g2, hb3.2.2.1.2⟩, g3, hb3.2.2.2.2⟩, if_pos hc]
    · subst hd
      exact absurd ⟨rfl, rfl⟩ hv
  · subst hd
    exact absurd ⟨rfl, rfl⟩ hv
def W (r : Nat) : Nat := if r < 128 then 1 else if r < 2048 then 2 else if r < 65536 then 3 else 4
def E0 (r : Nat) : Nat := if r < 128 then r else if r < 2048 then 192 + r / 64 else if r < 65536 then 224 + r / 4096 else 240 + r / 262144
def E1 (r : Nat) : Nat := if r < 2048 then 128 + r % 64 else if r < 65536 then 128 + r / 64 % 64 else 128 + r / 4096 % 64
def E2 (r : Nat) : Nat := if r < 65536 then 128 + r % 64 else 128 + r / 64 % 64
def E3 (r : Nat) : Nat := 128 + r % 64
/-- A rune that belongs to its bytes tells them. -/
theorem dec_enc (n b0 b1 b2 b3 : Nat) (d : Nat × Nat) (hd : Lib.decodeN n b0 b1 b2 b3 = d) (hv : ¬ Bad d) : d.2 = W d.1 ∧ b0 = E0 d.1 ∧ (1 < d.2 → b1 = E1 d.1) ∧ (2 < d.2 → b2 = E2 d.1) ∧ (3 < d.2 → b3 = E3 d.1) := by
  unfold Lib.decodeN at hd
  split at hd
  · rename_i ha
    subst hd
    unfold W E0
    simp only
    rw [if_pos ha, if_pos ha]
    exact ⟨rfl, rfl, fun h => absurd h (by decide), fun h => absurd h (by decide), fun h => absurd h (by decide)⟩
  rename_i ha
  split at hd
  · rename_i hb
    split at hd
    · rename_i hc
      have hr : b0 % 32 * 64 + b1 % 64 < 2048 := by omega
      have e0 : b0 = 192 + (b0 % 32 * 64 + b1 % 64) / 64 := by omega
      have e1 : b1 = 128 + (b0 % 32 * 64 + b1 % 64) % 64 := by omega
      generalize b0 % 32 * 64 + b1 % 64 = r at *
      subst hd
      unfold W E0 E1
      simp only
      rw [if_neg (by omega), if_pos hr, if_neg (by omega), if_pos hr, if_pos hr]
      exact ⟨rfl, e0, fun _ => e1, fun h => absurd h (by decide), fun h => absurd h (by decide)⟩
    · subst hd
      exact absurd ⟨rfl, rfl⟩ hv
  split at hd
  · rename_i hb2
    split at hd
    · rename_i hc
      have hr : b0 % 16 * 4096 + b1 % 64 * 64 + b2 % 64 < 65536 := by omega
      have e0 : b0 = 224 + (b0 % 16 * 4096 + b1 % 64 * 64 + b2 % 64) / 4096 := by omega
      have e1 : b1 = 128 + (b0 % 16 * 4096 + b1 % 64 * 64 + b2 % 64) / 64 % 64 := by omega
      have e2 : b2 = 128 + (b0 % 16 * 4096 + b1 % 64 * 64 + b2 % 64) % 64 := by omega
      generalize b0 % 16 * 4096 + b1 % 64 * 64 + b2 % 64 = r at *
      subst hd
      unfold W E0 E1 E2
      simp only
      rw [if_neg (by omega), if_neg (by omega), if_pos hr, if_neg (by omega), if_neg (by omega), if_pos hr, if_neg (by omega), if_pos hr, if_pos hr]
      exact ⟨rfl, e0, fun _ => e1, fun _ => e2, fun h => absurd h (by decide)⟩
    · subst hd
      exact absurd ⟨rfl, rfl⟩ hv
  split at hd
  · rename_i hb3
    split at hd
    · rename_i hc
      have e0 : b0 = 240 + (b0 % 8 * 262144 + b1 % 64 * 4096 + b2 % 64 * 64 + b3 % 64) / 262144 := by omega
      have e1 : b1 = 128 + (b0 % 8 * 262144 + b1 % 64 * 4096 + b2 % 64 * 64 + b3 % 64) / 4096 % 64 := by omega
      have e2 : b2 = 128 + (b0 % 8 * 262144 + b1 % 64 * 4096 + b2 % 64 * 64 + b3 % 64) / 64 % 64 := by omega
      have e3 : b3 = 128 + (b0 % 8 * 262144 + b1 % 64 * 4096 + b2 % 64 * 64 + b3 % 64) % 64 := by omega
      have hr := hc.1
      generalize b0 % 8 * 262144 + b1 % 64 * 4096 + b2 % 64 * 64 + b3 % 64 = r at *
      subst hd
      unfold W E0 E1 E2 E3
      simp only
      rw [if_neg (by omega), if_neg (by omega), if_neg (by omega), if_neg (by omega), if_neg (by omega), if_neg (by omega), if_neg (by omega), if_neg (by omega), if_neg (by omega)]
      exact ⟨rfl, e0, fun _ => e1, fun _ => e2, fun _ => e3⟩
    · subst hd
      exact absurd ⟨rfl, rfl⟩ hv
  · subst hd
    exact absurd ⟨rfl, rfl⟩ hv
theorem nb_list (s : ByteArray) (i : Nat) : nb s i = (s.data.toList.getD i 0).toNat := by
  have hg : s.get! i = s.data[i]! := rfl
  unfold nb
  rw [hg, getElem!_def, List.getD_eq_getElem?_getD, Array.getElem?_toList]
  cases s.data[i]? <;> rfl
theorem nb_drop (s : ByteArray) (i j : Nat) : nb s (i + j) = ((s.data.toList.drop i).getD j 0).toNat := by
  rw [nb_list, List.getD_eq_getElem?_getD, List.getD_eq_getElem?_getD, List.getElem?_drop]
def Good (s : ByteArray) (i : Nat) : Prop := ¬ Bad (Utf8.decode s i)
theorem dec_N (s : ByteArray) (i : Nat) : Utf8.decode s i = Lib.decodeN (s.size - i) (nb s i) (nb s (i + 1)) (nb s (i + 2)) (nb s (i + 3)) := Lib.decode_at s i
/-- The same bytes, somewhere else. -/
theorem dec_moved (s t : ByteArray) (i q : Nat) (hi : i < s.size) (hg : Good s i) (hq : q + wd s i ≤ t.size) (hb : ∀ j, j < wd s i → nb t (q + j) = nb s (i + j)) : Utf8.decode t q = Utf8.decode s i := by
  have hw := dec_bounds s i hi
  have h0 : nb t q = nb s i := hb 0 (by omega)
  have hd := (dec_N s i).symm
  rw [dec_N t q, h0]
  exact dec_same (s.size - i) (t.size - q) (nb s i) (nb s (i + 1)) (nb s (i + 2)) (nb s (i + 3)) (nb t (q + 1)) (nb t (q + 2)) (nb t (q + 3)) (Utf8.decode s i) hd hg
    (fun h => ⟨hb 1 h, by unfold wd at hq; omega⟩) (fun h => ⟨hb 2 h, by unfold wd at hq; omega⟩) (fun h => ⟨hb 3 h, by unfold wd at hq; omega⟩)
/-- A rune's bytes. -/
def seg8 (s : ByteArray) (i : Nat) : List UInt8 := (s.data.toList.drop i).take (wd s i)
def esc (s : ByteArray) : List Nat → List UInt8
  | [] => []
  | i :: l => (92 : UInt8) :: (seg8 s i ++ esc s l)
theorem seg8_len (s : ByteArray) (i : Nat) (hi : i < s.size) : (seg8 s i).length = wd s i := by
  have hw := dec_bounds s i hi
  unfold seg8
  rw [List.length_take, List.length_drop, Array.length_toList, data_size]
  omega
theorem seg8_get (s : ByteArray) (i j : Nat) (hi : i < s.size) (hj : j < wd s i) (x : List UInt8) : ((seg8 s i ++ x).getD j 0).toNat = nb s (i + j) := by
  have hl := seg8_len s i hi
  rw [List.getD_eq_getElem?_getD, List.getElem?_append_left (by omega), nb_drop, List.getD_eq_getElem?_getD]
  unfold seg8
  rw [List.getElem?_take_of_lt hj]
def UtfAt (s : ByteArray) (i : Nat) : Prop := ∀ p ∈ from_ s i, Good s p
theorem utf_good (s : ByteArray) (h : utfFrom s 0 = true) : UtfAt s 0 := by
  intro p hp hbad
  unfold utfFrom at h
  have h2 := (List.all_eq_true.mp h) p hp
  have h3 : rn s p = 65533 := hbad.1
  have h4 : wd s p = 1 := hbad.2
  rw [h3, h4] at h2
  cases h2
theorem utf_next {s : ByteArray} {i : Nat} (hi : i < s.size) (h : UtfAt s i) : Good s i ∧ UtfAt s (i + wd s i) := by
  unfold UtfAt at h
  rw [from_lt hi] at h
  exact ⟨h i (List.mem_cons_self ..), fun p hp => h p (List.mem_cons_of_mem _ hp)⟩
def inter : List Int → List Int
  | [] => []
  | r :: l => 92 :: r :: inter l
theorem size_list (s : ByteArray) : s.size = s.data.toList.length := by rw [Array.length_toList]; rfl
/-- The runes of a text with an escape ahead of each. -/
theorem esc_runes (s t : ByteArray) (d : Nat) : ∀ (i q : Nat), s.size - i ≤ d → UtfAt s i → q ≤ t.size → t.data.toList.drop q = esc s (from_ s i) →
    (from_ t q).map (fun j => (rn t j : Int)) = inter ((from_ s i).map (fun j => (rn s j : Int))) := by
  have hend : ∀ (i q : Nat), ¬ i < s.size → t.data.toList.drop q = esc s (from_ s i) → (from_ t q).map (fun j => (rn t j : Int)) = inter ((from_ s i).map (fun j => (rn s j : Int))) := by
    intro i q h hd
    rw [from_ge h, esc] at hd
    have hl := List.drop_eq_nil_iff.mp hd
    rw [← size_list] at hl
    rw [from_ge h, from_ge (by omega)]
    rfl
  induction d with
  | zero => intro i q h _ _ hd; exact hend i q (by omega) hd
  | succ d ih =>
    intro i q h hu hq hd
    by_cases hi : i < s.size
    · obtain ⟨hg, hn⟩ := utf_next hi hu
      have hw := dec_bounds s i hi
      have hsl := seg8_len s i hi
      rw [from_lt hi, esc] at hd
      have hlen := congrArg List.length hd
      rw [List.length_drop, ← size_list, List.length_cons, List.length_append, hsl] at hlen
      have h92 : nb t q = 92 := by
        have := nb_drop t q 0
        rw [hd] at this
        exact this
      have hd92 : Utf8.decode t q = (92, 1) := by
        rw [dec_N, h92]
        unfold Lib.decodeN
        rw [if_pos (by decide)]
      have hd2 : t.data.toList.drop (q + 1) = seg8 s i ++ esc s (from_ s (i + wd s i)) := by
        rw [← List.drop_drop, hd]
        rfl
      have hdec : Utf8.decode t (q + 1) = Utf8.decode s i := by
        refine dec_moved s t i (q + 1) hi hg (by omega) (fun j hj => ?_)
        rw [nb_drop, hd2, seg8_get s i j hi hj]
      have hd3 : t.data.toList.drop (q + 1 + wd s i) = esc s (from_ s (i + wd s i)) := by
        rw [← List.drop_drop, hd2, List.drop_append_of_le_length (by omega), List.drop_of_length_le (by omega), List.nil_append]
      have hr1 : rn t q = 92 := by unfold rn; rw [hd92]
      have hw1 : wd t q = 1 := by unfold wd; rw [hd92]
      have hr2 : rn t (q + 1) = rn s i := by unfold rn; rw [hdec]
      have hw2 : wd t (q + 1) = wd s i := by unfold wd; rw [hdec]
      have hih := ih (i + wd s i) (q + 1 + wd s i) (by omega) hn (by omega) hd3
      rw [from_lt (by omega : q < t.size), hw1, from_lt (by omega : q + 1 < t.size), hw2, from_lt hi, List.map_cons, List.map_cons, List.map_cons, hih, hr1, hr2, inter]
      rfl
    · exact hend i q hi hd
theorem inter_signs : ∀ l : List Int, signsL false (inter l) = l.map (fun r => (⟨r, false, false⟩ : S44)) := by
  intro l
  induction l with
  | nil => rfl
  | cons r l ih => rw [inter, signsL, if_pos rfl, signsL, ih, List.map_cons]
theorem gm_plain : ∀ (l t : List Int), gm (l.map (fun r => (⟨r, false, false⟩ : S44))) t ↔ t = l := by
  intro l
  induction l with
  | nil => intro t; rw [List.map_nil, gm]
  | cons r l ih =>
    intro t
    rw [List.map_cons, gm_lit rfl]
    constructor
    · rintro ⟨c, t', rfl, hl, hg⟩
      rw [(ih t').mp hg]
      rcases hl with hl | hl
      · cases hl
      · rw [show c = r from hl.symm]
    · rintro rfl
      exact ⟨r, l, rfl, .inr rfl, (ih l).mpr rfl⟩
/-- The same runes are the same bytes. -/
theorem runes_inj (s t : ByteArray) (d : Nat) : ∀ (i j : Nat), s.size - i ≤ d → UtfAt s i → UtfAt t j → i ≤ s.size → j ≤ t.size →
    (from_ s i).map (fun p => (rn s p : Int)) = (from_ t j).map (fun p => (rn t p : Int)) → s.data.toList.drop i = t.data.toList.drop j := by
  have hend : ∀ (i j : Nat), ¬ i < s.size → (from_ s i).map (fun p => (rn s p : Int)) = (from_ t j).map (fun p => (rn t p : Int)) → s.data.toList.drop i = t.data.toList.drop j := by
    intro i j h he
    rw [from_ge h] at he
    have hj : ¬ j < t.size := by
      intro hj
      rw [from_lt hj] at he
      cases he
    rw [List.drop_eq_nil_of_le (by rw [← size_list]; omega), List.drop_eq_nil_of_le (by rw [← size_list]; omega)]
  induction d with
  | zero => intro i j h _ _ _ _ he; exact hend i j (by omega) he
  | succ d ih =>
    intro i j h hs ht hi2 hj2 he
    by_cases hi : i < s.size
    · by_cases hj : j < t.size
      · obtain ⟨gs, ns⟩ := utf_next hi hs
        obtain ⟨gt, nt⟩ := utf_next hj ht
        have bs := dec_bounds s i hi
        have bt' := dec_bounds t j hj
        rw [from_lt hi, from_lt hj, List.map_cons, List.map_cons, List.cons.injEq] at he
        have hr : rn s i = rn t j := by have := he.1; omega
        obtain ⟨w1, x0, x1, x2, x3⟩ := dec_enc _ _ _ _ _ _ (dec_N s i).symm gs
        obtain ⟨w2, y0, y1, y2, y3⟩ := dec_enc _ _ _ _ _ _ (dec_N t j).symm gt
        have ew : wd s i = wd t j := by
          have a1 : wd s i = W (rn s i) := w1
          have a2 : wd t j = W (rn t j) := w2
          rw [a1, a2, hr]
        have hr' : (Utf8.decode s i).1 = (Utf8.decode t j).1 := hr
        have ew' : (Utf8.decode s i).2 = (Utf8.decode t j).2 := ew
        have hnb : ∀ x, x < wd s i → nb s (i + x) = nb t (j + x) := by
          intro x hx
          have hx' : x < (Utf8.decode s i).2 := hx
          have hc : x = 0 ∨ x = 1 ∨ x = 2 ∨ x = 3 := by omega
          rcases hc with rfl | rfl | rfl | rfl
          · rw [Nat.add_zero, Nat.add_zero, x0, y0, hr']
          · rw [x1 hx', y1 (ew' ▸ hx'), hr']
          · rw [x2 hx', y2 (ew' ▸ hx'), hr']
          · rw [x3 hx', y3 (ew' ▸ hx'), hr']
        have hseg : seg8 s i = seg8 t j := by
          apply List.ext_getElem
          · rw [seg8_len s i hi, seg8_len t j hj, ew]
          · intro x h1 h2
            rw [seg8_len s i hi] at h1
            rw [seg8_len t j hj] at h2
            have e1 := seg8_get s i x hi h1 []
            have e2 := seg8_get t j x hj h2 []
            rw [List.append_nil, List.getD_eq_getElem?_getD, List.getElem?_eq_getElem (by rw [seg8_len s i hi]; exact h1)] at e1
            rw [List.append_nil, List.getD_eq_getElem?_getD, List.getElem?_eq_getElem (by rw [seg8_len t j hj]; exact h2)] at e2
            apply UInt8.toNat_inj.mp
            exact e1.trans ((hnb x h1).trans e2.symm)
        have hrest := ih (i + wd s i) (j + wd t j) (by omega) ns nt (by omega) (by omega) he.2
        have f1 : s.data.toList.drop i = seg8 s i ++ s.data.toList.drop (i + wd s i) := by
          unfold seg8
          rw [← List.drop_drop, List.take_append_drop]
        have f2 : t.data.toList.drop j = seg8 t j ++ t.data.toList.drop (j + wd t j) := by
          unfold seg8
          rw [← List.drop_drop, List.take_append_drop]
        rw [f1, f2, hseg, hrest]
      · rw [from_lt hi, from_ge hj] at he
        cases he
    · exact hend i j hi he
theorem utf_inj (s t : ByteArray) (hs : utfFrom s 0 = true) (ht : utfFrom t 0 = true) (h : runesI s = runesI t) : s.data.toList = t.data.toList := by
  have := runes_inj s t s.size 0 0 (by omega) (utf_good s hs) (utf_good t ht) (Nat.zero_le _) (Nat.zero_le _) h
  rwa [List.drop_zero, List.drop_zero] at this
theorem esc_len (s : ByteArray) (d : Nat) : ∀ i, s.size - i ≤ d → i ≤ s.size → (esc s (from_ s i)).length ≤ 2 * (s.size - i) := by
  induction d with
  | zero => intro i h hi; rw [from_ge (by omega), esc]; exact Nat.zero_le _
  | succ d ih =>
    intro i h hi
    by_cases hlt : i < s.size
    · have hw := dec_bounds s i hlt
      have := ih (i + wd s i) (by omega) (by omega)
      rw [from_lt hlt, esc, List.length_cons, List.length_append, seg8_len s i hlt]
      omega
    · rw [from_ge hlt, esc]; exact Nat.zero_le _
theorem seg8_ext (s : ByteArray) (i : Nat) : (s.extract i (i + wd s i)).data.toList = seg8 s i := by
  unfold seg8
  rw [ByteArray.data_extract, Array.toList_extract, List.extract_eq_take_drop, Nat.add_sub_cancel_left]
end Go.Proofs.YtphimckceegiiaaDoor.Glob
