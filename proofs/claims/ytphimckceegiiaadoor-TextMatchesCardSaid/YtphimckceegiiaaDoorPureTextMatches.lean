/- TextMatches: what it computes is true. -/
import Derived.Test.YtphimckceegiiaaDoorPTxtx10
import Derived.Test.YtphimckceegiiaaDoorGlobRef
import Derived.Test.YtphimckceegiiaaDoorPureTextRunes
namespace Go.Proofs.YtphimckceegiiaaDoor.Pure
open Go.RowKit Go.Proofs.YtphimckceegiiaaDoorW.PrintWords Go.Proofs.YtphimckceegiiaaDoorW.PrintLast Go.Proofs.YtphimckceegiiaaDoorW.PrintMore Go.Proofs.YtphimckceegiiaaDoor.Math
open Go.Proofs.YtphimckceegiiaaDoor.PTxt Go.Proofs.YtphimckceegiiaaDoor.Runes Go.Proofs.YtphimckceegiiaaDoor.Text Go.Proofs.YtphimckceegiiaaDoor.Glob
set_option linter.unusedVariables false
set_option linter.unusedSimpArgs false
theorem awakeKM (k : Nat) : cambiumlaw02_awake.f (60 + k) = some true := by
  induction k with
  | zero => exact awake
  | succ k ih => exact cambiumlaw02_awake.mono _ _ ih
theorem runes_short (s : ByteArray) (n : Nat) (h : s.size ≤ n) : (runesI s).length ≤ n := by
  have := from_len s s.size 0 (by omega)
  unfold runesI
  rw [List.length_map]
  omega
theorem star_runes : runesI (⟨#[42]⟩ : ByteArray) = [42] := by
  have h : (⟨#[42]⟩ : ByteArray).size = 1 := rfl
  have hd : Utf8.decode (⟨#[42]⟩ : ByteArray) 0 = (42, 1) := rfl
  unfold runesI
  rw [from_lt (by rw [h]; omega)]
  have hw : wd (⟨#[42]⟩ : ByteArray) 0 = 1 := by unfold wd; rw [hd]
  have hr : rn (⟨#[42]⟩ : ByteArray) 0 = 42 := by unfold rn; rw [hd]
  rw [hw, from_ge (by rw [h]; omega), List.map_cons, hr]
  rfl
theorem star_all (t : List Int) : gm (signsL false (runesI (⟨#[42]⟩ : ByteArray))) t := by
  rw [star_runes, signsL, if_neg (by omega), if_pos rfl, signsL, gm_many rfl]
  refine ⟨t.length, Nat.le_refl _, ?_⟩
  rw [List.drop_length, gm]
theorem same_bool {r1 r2 : Bool} {G : Prop} (h1 : r1 = true ↔ G) (h2 : r2 = true ↔ G) : r1 = r2 := by
  cases r1 <;> cases r2 <;> simp_all
theorem matches_j0 (k : Nat) (p s : ByteArray) (hp : p.size ≤ 600) (hs : s.size ≤ 600) (hk : 3000000 ≤ k) : cambiumlaw02_TextMatches.j0 (k + 1) p s false = some true := by
  have hrp := runes_short p 600 hp
  have hrs := runes_short s 600 hs
  have hl := signsL_len (runesI p) false
  have hl2 := signsL_len (runesI (⟨#[42]⟩ : ByteArray)) false
  have hstar : (⟨#[42]⟩ : ByteArray).size = 1 := rfl
  rw [star_runes] at hl2
  obtain ⟨r1, e1, i1⟩ := match_is k p s (by omega) (by omega) (by omega) (by omega) hk
  obtain ⟨r2, e2, i2⟩ := refmatch_is k p s (by omega) (by omega) (by omega) (by omega) hk
  obtain ⟨r3, e3, i3⟩ := match_is k (⟨#[42]⟩ : ByteArray) s (by rw [hstar]; omega) (by omega) (by rw [star_runes]; simp only [List.length_singleton] at hl2; omega) (by omega) hk
  have hr3 : r3 = true := i3.mpr (star_all _)
  have h12 := same_bool i1 i2
  rw [cambiumlaw02_TextMatches.j0, if_neg Bool.false_ne_true, e1, Option.bind_some, e2, Option.bind_some, h12, if_pos (beq_self_eq_true _), e3, Option.bind_some, hr3]
theorem TextMatches : cambiumlaw02_TextMatches.Pure := by
  intro p s _ _
  suffices hall : ∀ k, 3000000 ≤ k → cambiumlaw02_TextMatches.f (k + 1) p s = some true from ⟨3000000 + 1, hall 3000000 (Nat.le_refl _)⟩
  intro kk hkk
  have haw : cambiumlaw02_awake.f (kk + 1) = some true := by
    have h := awakeKM (kk - 59)
    rw [show 60 + (kk - 59) = kk + 1 by omega] at h
    exact h
  unfold cambiumlaw02_TextMatches.f
  rw [haw, Option.bind_some, if_pos rfl]
  clear haw
  by_cases h1 : (p.size : Int) > 600
  · rw [if_pos h1, cambiumlaw02_TextMatches.j0, if_pos rfl]
  · rw [if_neg h1]
    by_cases h2 : (s.size : Int) > 600
    · rw [decide_eq_true h2, cambiumlaw02_TextMatches.j0, if_pos rfl]
    · rw [decide_eq_false h2]
      exact matches_j0 kk p s (by omega) (by omega) hkk
end Go.Proofs.YtphimckceegiiaaDoor.Pure
