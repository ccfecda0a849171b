/- TextWords: what it computes is true. -/
import Derived.Test.YtphimckceegiiaaDoorPTxtx11
import Derived.Test.YtphimckceegiiaaDoorWordsL
import Derived.Test.YtphimckceegiiaaDoorPureTextRunes
namespace Go.Proofs.YtphimckceegiiaaDoor.Pure
open Go.RowKit Go.Proofs.YtphimckceegiiaaDoorW.PrintWords Go.Proofs.YtphimckceegiiaaDoorW.PrintLast Go.Proofs.YtphimckceegiiaaDoorW.PrintMore Go.Proofs.YtphimckceegiiaaDoor.Math
open Go.Proofs.YtphimckceegiiaaDoor.PTxt Go.Proofs.YtphimckceegiiaaDoor.Runes Go.Proofs.YtphimckceegiiaaDoor.Text Go.Proofs.YtphimckceegiiaaDoor.Tells
set_option linter.unusedVariables false
set_option linter.unusedSimpArgs false
theorem awakeKW (k : Nat) : cambiumlaw02_awake.f (60 + k) = some true := by
  induction k with
  | zero => exact awake
  | succ k ih => exact cambiumlaw02_awake.mono _ _ ih
theorem wW (s : ByteArray) (h : s.size ≤ 1000000) : text_Words.f s = some (wordsB s) := by unfold text_Words.f; rw [if_pos h]; rfl
theorem wO (s : ByteArray) (h : s.size ≤ 1000000) : text_Lower.f s = some (lowerB s) := by unfold text_Lower.f; rw [if_pos h]
theorem rdo (l : List ByteArray) (i : Nat) (h : i < l.length) : rdOf ByteArray.empty l (i : Int) = l[i] := by
  unfold rdOf
  rw [Int.toNat_natCast, List.getD_eq_getElem?_getD, List.getElem?_eq_getElem h]
  rfl
def Joined (ws : List ByteArray) (t : ByteArray) (i : Nat) : Prop := t.data.toList = tabbed ((ws.take i).map (fun w => w.data.toList)) ∧ t.size ≤ i * 601
theorem joined_next {ws : List ByteArray} {t : ByteArray} {i : Nat} (hs : ∀ w ∈ ws, w.size ≤ 600) (h : i < ws.length) (hj : Joined ws t i) : Joined ws ((t ++ (⟨#[9]⟩ : ByteArray)) ++ ws[i]) (i + 1) := by
  refine ⟨?_, ?_⟩
  · rw [ByteArray.data_append, ByteArray.data_append, Array.toList_append, Array.toList_append, hj.1, List.take_succ_eq_append_getElem h, List.map_append, List.map_singleton, tabbed_add, List.append_assoc]
    rfl
  · have := hs _ (List.getElem_mem h)
    have h1 : (⟨#[9]⟩ : ByteArray).size = 1 := rfl
    have := hj.2
    rw [ByteArray.size_append, ByteArray.size_append, h1]
    omega
theorem l1_true (s t : ByteArray) (ws low : List ByteArray) (hs : s.size ≤ 600) (hw : ws = wordsB s) (hlow : low = ws.map lowerB) (hn : ws.length ≤ 601) (ht : Joined ws t ws.length) (d : Nat) :
    ∀ (k i : Nat), ws.length - i ≤ d → d + 700 < k → cambiumlaw02_TextWords.l1 k ws t low (i : Int) = some true := by
  have hend : ∀ (k i : Nat), ¬ i < ws.length → 700 ≤ k → cambiumlaw02_TextWords.l1 (k + 1) ws t low (i : Int) = some true := by
    intro k i h hk
    have hb := ht.2
    have hl := ht.1
    rw [List.take_length, hw] at hl
    rw [cambiumlaw02_TextWords.l1, if_neg (by omega), wW t (by omega), Option.bind_some, wordsB_tabbed s t hl, ← hw, texts_eq k ws (by omega) (by omega), Option.bind_some]
  have hsz : ∀ w ∈ ws, w.size ≤ s.size := fun w hm => by rw [hw] at hm; exact wordsF_size s _ _ w hm
  induction d with
  | zero =>
    intro k i h hk
    obtain ⟨k, rfl⟩ : ∃ j, k = j + 1 := ⟨k - 1, by omega⟩
    exact hend k i (by omega) (by omega)
  | succ d ih =>
    intro k i h hk
    obtain ⟨k, rfl⟩ : ∃ j, k = j + 1 := ⟨k - 1, by omega⟩
    by_cases hlt : i < ws.length
    · have hll : low.length = ws.length := by rw [hlow, List.length_map]
      have hi : low[i]'(by omega) = lowerB ws[i] := by simp only [hlow, List.getElem_map]
      have hz := hsz _ (List.getElem_mem hlt)
      rw [cambiumlaw02_TextWords.l1, if_pos (by omega), if_pos (by omega), if_pos (by omega), rdo ws i hlt, rdo low i (by omega), hi, wO _ (by omega), Option.bind_some, if_pos rfl, w_succ i (by omega)]
      exact ih k (i + 1) (by omega) (by omega)
    · exact hend k i hlt (by omega)
theorem bne_list (l : List UInt8) : (l != l) = false := bne_self_eq_false l
theorem l0_true (s : ByteArray) (ws : List ByteArray) (hs : s.size ≤ 600) (hw : ws = wordsB s) (hn : ws.length ≤ 601) (d : Nat) :
    ∀ (k i : Nat) (t : ByteArray), ws.length - i ≤ d → i ≤ ws.length → Joined ws t i → d + 1400 < k → cambiumlaw02_TextWords.l0 k s ws t (i : Int) = some true := by
  have hsz : ∀ w ∈ ws, w.size ≤ 600 := fun w hm => by rw [hw] at hm; exact Nat.le_trans (wordsF_size s _ _ w hm) hs
  have hend : ∀ (k i : Nat) (t : ByteArray), ¬ i < ws.length → i ≤ ws.length → Joined ws t i → 1400 ≤ k → cambiumlaw02_TextWords.l0 (k + 1) s ws t (i : Int) = some true := by
    intro k i t h hi hj hk
    have hie : i = ws.length := by omega
    subst hie
    obtain ⟨k, rfl⟩ : ∃ j, k = j + 1 := ⟨k - 1, by omega⟩
    have hls := lower_size s
    have hlw : wordsB (lowerB s) = ws.map lowerB := by rw [wordsB_low, ← hw]
    have hll : ((wordsB (lowerB s)).length : Int) = (ws.length : Int) := by rw [hlw, List.length_map]
    rw [cambiumlaw02_TextWords.l0, if_neg (by omega), wO s (by omega), Option.bind_some, wW (lowerB s) (by omega), Option.bind_some, if_pos hll, Option.bind_some, wO (lowerB s) (by omega), Option.bind_some, Option.bind_some, lower_twice, bne_list, cambiumlaw02_TextWords.j1, if_neg Bool.false_ne_true, hlw]
    exact l1_true s t ws (ws.map lowerB) hs hw rfl hn hj ws.length k 0 (by omega) (by omega)
  induction d with
  | zero =>
    intro k i t h hi hj hk
    obtain ⟨k, rfl⟩ : ∃ j, k = j + 1 := ⟨k - 1, by omega⟩
    exact hend k i t (by omega) hi hj (by omega)
  | succ d ih =>
    intro k i t h hi hj hk
    obtain ⟨k, rfl⟩ : ∃ j, k = j + 1 := ⟨k - 1, by omega⟩
    by_cases hlt : i < ws.length
    · have hm : ws[i] ∈ wordsB s := by rw [← hw]; exact List.getElem_mem hlt
      have hz := hsz _ (List.getElem_mem hlt)
      have hne := (wordsB_mem s _ hm).1
      have hj2 := joined_next hsz hlt hj
      have h1 : (⟨#[9]⟩ : ByteArray).size = 1 := rfl
      have hb := hj.2
      have hone : (([ws[i]] : List ByteArray).length : Int) = 1 := rfl
      have hs1 : t.size + 1 ≤ 9223372036854775807 := by omega
      have hs2 : (t ++ (⟨#[9]⟩ : ByteArray)).size + (ws[i]).size ≤ 9223372036854775807 := by rw [ByteArray.size_append, h1]; omega
      rw [cambiumlaw02_TextWords.l0, if_pos (by omega), if_pos (by omega), rdo ws i hlt, if_neg (by rw [ByteArray.toList_eq]; exact hne), wW _ (by omega), Option.bind_some, wordsB_one s _ hm, if_pos hone, if_pos hs1, if_pos hs2, w_succ i (by omega)]
      exact ih k (i + 1) _ (by omega) (by omega) hj2 (by omega)
    · exact hend k i t hlt hi hj (by omega)
set_option maxHeartbeats 1000000 in
theorem TextWords : cambiumlaw02_TextWords.Pure := by
  intro s _
  suffices hall : ∀ k, 2100 ≤ k → cambiumlaw02_TextWords.f k s = some true from ⟨2100, hall 2100 (Nat.le_refl _)⟩
  intro kk hkk
  have haw : cambiumlaw02_awake.f kk = some true := by
    have h := awakeKW (kk - 60)
    rw [show 60 + (kk - 60) = kk by omega] at h
    exact h
  unfold cambiumlaw02_TextWords.f
  rw [haw]
  clear haw
  rw [Option.bind_some, if_pos rfl]
  refine ite_t (fun _ => rfl) (fun hsz => ?_)
  have hs : s.size ≤ 600 := by omega
  have hlen : (from_ s 0).length ≤ s.size := by have := from_len s s.size 0 (by omega); omega
  have hwl : (wordsB s).length ≤ (from_ s 0).length + 1 := words_len s (from_ s 0) 0
  rw [wW s (by omega), Option.bind_some]
  exact l0_true s (wordsB s) hs rfl (by omega) (wordsB s).length kk 0 _ (by omega) (by omega) ⟨rfl, Nat.le_refl _⟩ (by omega)
end Go.Proofs.YtphimckceegiiaaDoor.Pure
