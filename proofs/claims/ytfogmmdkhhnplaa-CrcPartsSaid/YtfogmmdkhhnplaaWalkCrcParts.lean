/- CrcParts: parts one behind the other have the whole's sum. The law's guards: 100 parts, 4096 bytes. -/
import Derived.Test.YtfogmmdkhhnplaaCrcFacts
import Derived.Test.YtfogmmdkhhnplaaExtCrcAwake
import Derived.Test.YtfogmmdkhhnplaaPAllx1
namespace Go.Proofs.Ytfogmmdkhhnplaa.Walk
open Go.RowKit Go.Proofs.Ytfogmmdkhhnplaa.PAll Go.Proofs.YtfogmmdkhhnplaaW.PrintWords Go.Proofs.YtfogmmdkhhnplaaW.PrintLast Go.Proofs.Ytfogmmdkhhnplaa.Math Go.Proofs.Ytfogmmdkhhnplaa.CrcFacts

theorem parts_l0 (l : List (List Int)) (hb : ∀ x ∈ l, IsB x) (hz : ∀ x ∈ l, x.length ≤ 140737488351232) (d : Nat) : ∀ (k i : Nat) (all : List Int), IsB all → all.length ≤ 4096 → i + d = 100 → d + 50000 < k →
    cambiumlaw03_CrcParts.l0 k l all (crcSum all) (i : Int) = some true := by
  have fin : ∀ (k : Nat) (all : List Int), IsB all → all.length ≤ 4096 → 50000 ≤ k →
      ((crc_Sum.f all).bind fun t => (if crcSum all = t then ((cambiumref03_Sum.f k all).bind fun t1 => (some (crcSum all == t1))) else (some false))) = some true := by
    intro k all ha hl hk
    rw [sum_eq all ha, Option.bind_some, if_pos rfl, rsum_eq k all ha (by omega) (by omega), Option.bind_some]; simp
  induction d with
  | zero =>
    intro k i all ha hl hi hk
    obtain ⟨k, rfl⟩ : ∃ m, k = m + 1 := ⟨k - 1, by omega⟩
    rw [cambiumlaw03_CrcParts.l0]
    split
    · rw [if_neg (by omega)]; exact fin k all ha hl (by omega)
    · exact fin k all ha hl (by omega)
  | succ d ih =>
    intro k i all ha hl hi hk
    obtain ⟨k, rfl⟩ : ∃ m, k = m + 1 := ⟨k - 1, by omega⟩
    rw [cambiumlaw03_CrcParts.l0]
    split
    · rename_i hil
      have hm : rd_L2 l (i : Int) ∈ l := by
        have : i < l.length := by omega
        unfold rd_L2
        simp only [Int.toNat_natCast, List.getD_eq_getElem?_getD, List.getElem?_eq_getElem this, Option.getD_some]
        exact List.getElem_mem this
      have hx := hb _ hm
      have hxl := hz _ hm
      generalize rd_L2 l (i : Int) = x at hx hxl ⊢
      rw [if_pos (by omega), if_pos (by omega), wrap_id (x := (all.length : Int) + (x.length : Int)) (by omega) (by omega)]
      split
      · have b := crcMore_bounds 0 all
        rw [if_pos (by omega), more_eq (crcSum all) x b.1 b.2 hx, Option.bind_some, wrap_id (x := (i : Int) + 1) (by omega) (by omega)]
        have e : crcMore (crcSum all) x = crcSum (all ++ x) := by unfold crcSum; rw [crcMore_append ha]
        rw [e]
        exact ih k (i + 1) (all ++ x) (isB_append ha hx) (by rw [List.length_append]; omega) (by omega) (by omega)
      · exact fin k all ha hl (by omega)
    · exact fin k all ha hl (by omega)

theorem CrcParts (W : World) (A : Option Addr) (c : Nat) (l : List (List Int)) (hl : l.length ≤ c) (hc : Kd.C (Kd.slice 5 (Kd.int .u8)) W A l.length l)
    (hg : (∀ x ∈ l, (∀ y ∈ x, (Lit.int .u8 y).wf = true) ∧ x.length * 1 ≤ 140737488351232) ∧ l.length * 24 ≤ 140737488351232) :
    Calls Try.prog 4 #[.slice A l.length c] W fun e w' => e = .returned (.bool true) ∧ Below W.heap.size W w' := by
  have h : cambiumlaw03_CrcParts.f 60000 l = some true := by
    unfold cambiumlaw03_CrcParts.f
    rw [show cambiumlaw03_awake.f = some true from rfl, Option.bind_some, if_pos rfl]
    have := parts_l0 l (fun x hx => isB_of_wf (hg.1 x hx).1) (fun x hx => by have := (hg.1 x hx).2; omega) 100 60000 0 [] isB_nil (by simp) (by omega) (by omega)
    rw [crcSum_nil] at this
    exact this
  exact cambiumlaw03_CrcParts.calls 60000 A c l true W hc hl h

end Go.Proofs.Ytfogmmdkhhnplaa.Walk
