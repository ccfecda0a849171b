/- The words of a text, byte by byte, on plain lists: what they are, put together, and with small letters. -/
import Derived.Test.YtphimckceegiiaaDoorTellsWords
namespace Go.Proofs.YtphimckceegiiaaDoor.Tells
open Go.RowKit Go.Proofs.YtphimckceegiiaaDoorW.PrintWords Go.Proofs.YtphimckceegiiaaDoorW.PrintLast Go.Proofs.YtphimckceegiiaaDoorW.PrintMore Go.Proofs.YtphimckceegiiaaDoor.Math
open Go.Proofs.YtphimckceegiiaaDoor.PTxt Go.Proofs.YtphimckceegiiaaDoor.Runes Go.Proofs.YtphimckceegiiaaDoor.Text Go.Proofs.YtphimckceegiiaaDoor.Pure
set_option linter.unusedVariables false
set_option linter.unusedSimpArgs false
def blU (c : UInt8) : Bool := blankN c.toNat
def wl : List UInt8 → List UInt8 → List (List UInt8)
  | [], cur => if cur = [] then [] else [cur]
  | c :: t, cur => if blU c = true then (if cur = [] then wl t [] else cur :: wl t []) else wl t (cur ++ [c])
def Clean (l : List UInt8) : Prop := ∀ c ∈ l, blU c = false
theorem clean_add {l : List UInt8} {c : UInt8} (h : Clean l) (hc : blU c = false) : Clean (l ++ [c]) := by
  intro x hx
  rw [List.mem_append, List.mem_singleton] at hx
  rcases hx with hx | rfl
  · exact h x hx
  · exact hc
theorem wl_words : ∀ (l cur : List UInt8), Clean cur → ∀ w ∈ wl l cur, w ≠ [] ∧ Clean w := by
  intro l
  induction l with
  | nil =>
    intro cur hc w hw
    rw [wl] at hw
    by_cases h : cur = []
    · rw [if_pos h] at hw; cases hw
    · rw [if_neg h, List.mem_singleton] at hw
      subst hw
      exact ⟨h, hc⟩
  | cons c t ih =>
    intro cur hc w hw
    rw [wl] at hw
    by_cases hb : blU c = true
    · rw [if_pos hb] at hw
      by_cases h : cur = []
      · rw [if_pos h] at hw
        exact ih [] (fun x hx => by cases hx) w hw
      · rw [if_neg h, List.mem_cons] at hw
        rcases hw with rfl | hw
        · exact ⟨h, hc⟩
        · exact ih [] (fun x hx => by cases hx) w hw
    · rw [if_neg hb] at hw
      exact ih _ (clean_add hc (by cases hq : blU c with | true => exact absurd hq hb | false => rfl)) w hw
theorem wl_over : ∀ (w rest cur : List UInt8), Clean w → wl (w ++ rest) cur = wl rest (cur ++ w) := by
  intro w
  induction w with
  | nil => intro rest cur _; rw [List.nil_append, List.append_nil]
  | cons c t ih =>
    intro rest cur h
    have hc : blU c = false := h c (List.mem_cons_self ..)
    rw [List.cons_append, wl, if_neg (by rw [hc]; exact Bool.false_ne_true), ih rest _ (fun x hx => h x (List.mem_cons_of_mem _ hx)), List.append_assoc]
    rfl
theorem wl_one (w : List UInt8) (hw : w ≠ []) (hc : Clean w) : wl w [] = [w] := by
  have h := wl_over w [] [] hc
  rw [List.append_nil, List.nil_append] at h
  rw [h, wl, if_neg hw]
theorem blU_tab : blU 9 = true := rfl
def tabbed (ws : List (List UInt8)) : List UInt8 := (ws.map (fun w => (9 : UInt8) :: w)).flatten
theorem tabbed_add (ws : List (List UInt8)) (w : List UInt8) : tabbed (ws ++ [w]) = tabbed ws ++ (9 : UInt8) :: w := by
  unfold tabbed
  rw [List.map_append, List.flatten_append]
  simp
theorem wl_tabbed : ∀ (ws : List (List UInt8)) (cur : List UInt8), (∀ w ∈ ws, w ≠ [] ∧ Clean w) → wl (tabbed ws) cur = (if cur = [] then [] else [cur]) ++ ws := by
  intro ws
  induction ws with
  | nil => intro cur _; rw [List.append_nil]; rfl
  | cons w t ih =>
    intro cur h
    obtain ⟨hw, hc⟩ := h w (List.mem_cons_self ..)
    have ht := ih w (fun x hx => h x (List.mem_cons_of_mem _ hx))
    have e : tabbed (w :: t) = (9 : UInt8) :: (w ++ tabbed t) := by unfold tabbed; simp
    rw [if_neg hw] at ht
    rw [e, wl, if_pos blU_tab]
    have e2 : wl (w ++ tabbed t) [] = w :: t := by
      rw [wl_over w (tabbed t) [] hc, List.nil_append, ht]
      rfl
    rw [e2]
    by_cases h0 : cur = []
    · rw [if_pos h0, if_pos h0]; rfl
    · rw [if_neg h0, if_neg h0]; rfl
def lowU (b : UInt8) : UInt8 := UInt8.ofNat (lowI (b.toNat : Int)).toNat
theorem lowU_nat (b : UInt8) : (lowU b).toNat = if 65 ≤ b.toNat ∧ b.toNat ≤ 90 then b.toNat + 32 else b.toNat := by
  have hb := b.toNat_lt
  unfold lowU lowI
  rw [UInt8.toNat_ofNat']
  split <;> split <;> omega
theorem lowU_bl (b : UInt8) : blU (lowU b) = blU b := by
  unfold blU
  rw [lowU_nat]
  split
  · rw [blankN_high (by omega), blankN_high (by omega)]
  · rfl
theorem lowU_low (b : UInt8) : lowU (lowU b) = lowU b := by
  apply UInt8.toNat_inj.mp
  rw [lowU_nat (lowU b), lowU_nat b]
  repeat' split
  all_goals omega
theorem wl_low : ∀ (l cur : List UInt8), wl (l.map lowU) (cur.map lowU) = (wl l cur).map (fun w => w.map lowU) := by
  have h0 : ∀ cur : List UInt8, cur.map lowU = [] ↔ cur = [] := fun cur => List.map_eq_nil_iff
  intro l
  induction l with
  | nil =>
    intro cur
    rw [List.map_nil, wl, wl]
    by_cases h : cur = []
    · rw [if_pos h, if_pos ((h0 cur).mpr h)]; rfl
    · rw [if_neg h, if_neg (fun hh => h ((h0 cur).mp hh))]; rfl
  | cons c t ih =>
    intro cur
    rw [List.map_cons, wl, wl, lowU_bl]
    have hn := ih []
    rw [List.map_nil] at hn
    by_cases hb : blU c = true
    · rw [if_pos hb, if_pos hb]
      by_cases h : cur = []
      · rw [if_pos h, if_pos ((h0 cur).mpr h), hn]
      · rw [if_neg h, if_neg (fun hh => h ((h0 cur).mp hh)), hn, List.map_cons]
    · rw [if_neg hb, if_neg hb, ← ih (cur ++ [c]), List.map_append]
      rfl
theorem lower_list (s : ByteArray) : (lowerB s).data.toList = s.data.toList.map lowU := by
  unfold lowerB strOfNums bytesOf
  rw [List.map_map, List.map_map]
  rfl
theorem drop_cons (s : ByteArray) (i : Nat) (h : i < s.size) : ∃ c, s.data.toList.drop i = c :: s.data.toList.drop (i + 1) ∧ blU c = blankN (nb s i) ∧ (s.extract i (i + 1)).data.toList = [c] := by
  have hl : i < s.data.toList.length := by rw [Array.length_toList, data_size]; exact h
  refine ⟨s.data.toList[i], List.drop_eq_getElem_cons hl, ?_, ?_⟩
  · unfold blU nb
    have hg : s.get! i = s.data[i]! := rfl
    rw [hg, getElem!_pos s.data i h]
    rfl
  · rw [ByteArray.data_extract, Array.toList_extract, List.extract_eq_take_drop, show i + 1 - i = 1 by omega, List.drop_eq_getElem_cons hl]
    rfl
theorem ext_list (s : ByteArray) (b i : Nat) (hb : b ≤ i) (hi : i < s.size) : (s.extract b (i + 1)).data.toList = (s.extract b i).data.toList ++ (s.extract i (i + 1)).data.toList := by
  rw [← ext_join s b i hb hi, ByteArray.data_append, Array.toList_append]
theorem wl_row (s : ByteArray) (b : Nat) : ∀ (m i : Nat), b ≤ i → i + m ≤ s.size → (∀ j, j < m → blankN (nb s (i + j)) = false) →
    wl (s.data.toList.drop i) (s.extract b i).data.toList = wl (s.data.toList.drop (i + m)) (s.extract b (i + m)).data.toList := by
  intro m
  induction m with
  | zero => intro i _ _ _; simp only [Nat.add_zero]
  | succ m ih =>
    intro i hb hm hbl
    have h0 := hbl 0 (by omega)
    rw [Nat.add_zero] at h0
    obtain ⟨c, e1, e2, e3⟩ := drop_cons s i (by omega)
    have e4 := ext_list s b i hb (by omega)
    rw [e3] at e4
    rw [e1, wl, if_neg (by rw [e2, h0]; exact Bool.false_ne_true), ← e4]
    rw [ih (i + 1) (by omega) (by omega) (fun j hj => by have := hbl (j + 1) (by omega); rwa [show i + (j + 1) = i + 1 + j by omega] at this)]
    rw [show i + 1 + m = i + (m + 1) by omega]
theorem ext_none (s : ByteArray) (b i : Nat) (hi : i ≤ s.size) : (s.extract b i).data.toList = ([] : List UInt8) ↔ ¬ b < i := by
  have h := ext_nil s b i hi
  rw [ByteArray.toList_eq] at h
  exact h
/-- The words rune by rune are those byte by byte. -/
theorem words_list (s : ByteArray) : ∀ (d i b : Nat), s.size - i ≤ d → b ≤ i → i ≤ s.size → (wordsF s (from_ s i) b).map (fun w => w.data.toList) = wl (s.data.toList.drop i) (s.extract b i).data.toList := by
  have hend : ∀ (i b : Nat), ¬ i < s.size → i ≤ s.size → (wordsF s (from_ s i) b).map (fun w => w.data.toList) = wl (s.data.toList.drop i) (s.extract b i).data.toList := by
    intro i b h1 h2
    have hi : i = s.size := by omega
    subst hi
    rw [from_ge h1, wordsF, List.drop_eq_nil_of_le (by rw [Array.length_toList, data_size]; exact Nat.le_refl _), wl]
    by_cases hb : b < s.size
    · rw [if_pos hb, if_neg (fun h => (ext_none s b s.size (Nat.le_refl _)).mp h hb)]; rfl
    · rw [if_neg hb, if_pos ((ext_none s b s.size (Nat.le_refl _)).mpr hb)]; rfl
  intro d
  induction d with
  | zero => intro i b h hb hi; exact hend i b (by omega) hi
  | succ d ih =>
    intro i b h hb hi
    by_cases hlt : i < s.size
    · have hd := dec_bounds s i hlt
      obtain ⟨hx, hy⟩ := dec_blank s i hlt
      cases hbl : blankN (rn s i) with
      | true =>
        obtain ⟨hw1, hn⟩ := hx hbl
        obtain ⟨c, e1, e2, e3⟩ := drop_cons s i hlt
        have hz : ([] : List UInt8) = (s.extract (i + 1) (i + 1)).data.toList := ((ext_none s (i + 1) (i + 1) (by omega)).mpr (by omega)).symm
        have hbc : blU c = true := by rw [e2, hn]; exact hbl
        rw [from_lt hlt, hw1, wordsF, if_pos hbl, e1, wl, if_pos hbc]
        by_cases hbi : b < i
        · rw [if_pos hbi, if_neg (fun h => (ext_none s b i hi).mp h hbi), List.map_cons, ih (i + 1) (i + 1) (by omega) (by omega) (by omega), ← hz]
        · rw [if_neg hbi, if_pos ((ext_none s b i hi).mpr hbi), ih (i + 1) (i + 1) (by omega) (by omega) (by omega), ← hz]
      | false =>
        rw [from_lt hlt, wordsF, if_neg (by rw [hbl]; exact Bool.false_ne_true), ih (i + wd s i) b (by omega) (by omega) (by omega), ← wl_row s b (wd s i) i hb (by omega) (hy hbl)]
    · exact hend i b hlt hi
def wordsB (s : ByteArray) : List ByteArray := wordsF s (from_ s 0) 0
theorem wordsB_list (s : ByteArray) : (wordsB s).map (fun w => w.data.toList) = wl s.data.toList [] := by
  have h := words_list s s.size 0 0 (by omega) (by omega) (by omega)
  rw [List.drop_zero, (ext_none s 0 0 (by omega)).mpr (by omega)] at h
  exact h
theorem list_inj {a b : ByteArray} (h : a.data.toList = b.data.toList) : a = b := by
  ext1
  exact Array.ext' h
theorem lists_inj : ∀ (a b : List ByteArray), a.map (fun w => w.data.toList) = b.map (fun w => w.data.toList) → a = b := by
  intro a b h
  exact List.map_inj_right (fun _ _ => list_inj) |>.mp h
theorem wordsB_mem (s w : ByteArray) (h : w ∈ wordsB s) : w.data.toList ≠ [] ∧ Clean w.data.toList := by
  have h2 : w.data.toList ∈ (wordsB s).map (fun w => w.data.toList) := List.mem_map_of_mem h
  rw [wordsB_list] at h2
  exact wl_words _ _ (fun x hx => by cases hx) _ h2
theorem wordsB_one (s w : ByteArray) (h : w ∈ wordsB s) : wordsB w = [w] := by
  obtain ⟨h1, h2⟩ := wordsB_mem s w h
  apply lists_inj
  rw [wordsB_list, wl_one _ h1 h2]
  rfl
theorem wordsB_low (s : ByteArray) : wordsB (lowerB s) = (wordsB s).map lowerB := by
  apply lists_inj
  have h := wl_low s.data.toList []
  rw [List.map_nil] at h
  rw [wordsB_list, lower_list, h, ← wordsB_list, List.map_map, List.map_map]
  apply List.map_congr_left
  intro w _
  exact (lower_list w).symm
theorem lower_twice (s : ByteArray) : lowerB (lowerB s) = lowerB s := by
  apply list_inj
  rw [lower_list, lower_list, List.map_map]
  apply List.map_congr_left
  intro b _
  exact lowU_low b
theorem wordsB_tabbed (s t : ByteArray) (h : t.data.toList = tabbed ((wordsB s).map (fun w => w.data.toList))) : wordsB t = wordsB s := by
  apply lists_inj
  rw [wordsB_list, h, wl_tabbed _ [] ?_, if_pos rfl, List.nil_append]
  intro w hw
  obtain ⟨x, hx, rfl⟩ := List.mem_map.mp hw
  exact wordsB_mem s x hx
theorem wordsF_size (s : ByteArray) : ∀ (l : List Nat) (b : Nat), ∀ w ∈ wordsF s l b, w.size ≤ s.size := by
  have he : ∀ a b, (s.extract a b).size ≤ s.size := fun a b => by rw [ByteArray.size_extract]; omega
  intro l
  induction l with
  | nil =>
    intro b w hw
    rw [wordsF] at hw
    split at hw
    · rw [List.mem_singleton] at hw; subst hw; exact he _ _
    · cases hw
  | cons i t ih =>
    intro b w hw
    rw [wordsF] at hw
    split at hw
    · split at hw
      · rw [List.mem_cons] at hw
        rcases hw with rfl | hw
        · exact he _ _
        · exact ih _ w hw
      · exact ih _ w hw
    · exact ih _ w hw
theorem lower_size (s : ByteArray) : (lowerB s).size = s.size := by
  have h := congrArg List.length (lower_list s)
  rw [List.length_map, Array.length_toList, Array.length_toList] at h
  exact h
end Go.Proofs.YtphimckceegiiaaDoor.Tells
