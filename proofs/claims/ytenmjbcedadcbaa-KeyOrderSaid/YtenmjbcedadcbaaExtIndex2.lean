/- key.Index, Service, Operation in the print's form, by hand. -/
import Derived.Test.YtenmjbcedadcbaaExtIndex
import Derived.Test.YtenmjbcedadcbaaConv
namespace Go.Proofs.Ytenmjbcedadcbaa.PAll
open Go.RowKit Go.Proofs.YtenmjbcedadcbaaW.PrintWords Go.Proofs.YtenmjbcedadcbaaW.PrintLast Go.Proofs.YtenmjbcedadcbaaW.PrintMore Go.Proofs.Ytenmjbcedadcbaa.Math
set_option linter.unusedVariables false
set_option linter.unusedSimpArgs false

theorem M_V {w : World} {base : Nat} {v : Value} {xs : List Int} (e : TypeId) (h : MRow w base v xs) : Kd.V (Kd.int .u8) e w base (fun k => base ≤ k) v xs := by
  obtain ⟨g, cap, h0, h1, h2, h3, h4, h5, h6⟩ := h
  refine ⟨_, _, h0, h2, ?_⟩
  intro W' hW
  have hb := hW g h1 h4
  refine Kd.C_of_reads (d := (0 : Int)) ⟨rfl, Nat.le_trans h2 (by simpa [maxLen] using h3), fun _ => ⟨_, rfl, fun j hj => ?_⟩⟩
  rw [add_plain]
  have hc : W'.cell? ⟨g, j, none⟩ = w.cell? ⟨g, j, none⟩ := World.cell?_of_block hb
  rw [hc, h5 j hj]
  simp [rd, List.getD_eq_getElem?_getD]

def key_Service.f (a0 : ByteArray) : Option (List Int) := if a0.size ≤ 70368744177664 then some (bytesOf a0 ++ [0]) else none
def key_Operation.f (a0 a1 : ByteArray) : Option (List Int) := if a0.size ≤ 35184372088832 ∧ a1.size ≤ 35184372088832 then some (bytesOf a0 ++ [0] ++ (bytesOf a1 ++ [0])) else none

theorem key_Service.calls (a0 : ByteArray) (r : List Int) (w : World) (h : key_Service.f a0 = some r) :
    Calls Try.prog 18 #[.string a0] w fun e w' => ∃ v0_ : Value, e = .returned v0_ ∧ Kd.V (Kd.int .u8) 5 w' w.heap.size (fun k_ => w.heap.size ≤ k_) v0_ r ∧ Below w.heap.size w w' := by
  unfold key_Service.f at h
  split at h
  · rename_i hs
    injection h with h
    subst h
    refine (service_calls a0 w hs).mono ?_
    rintro e w1 ⟨v, rfl, hm, hb⟩
    exact ⟨_, rfl, M_V _ hm, hb⟩
  · cases h

theorem key_Operation.calls (a0 a1 : ByteArray) (r : List Int) (w : World) (h : key_Operation.f a0 a1 = some r) :
    Calls Try.prog 19 #[.string a0, .string a1] w fun e w' => ∃ v0_ : Value, e = .returned v0_ ∧ Kd.V (Kd.int .u8) 5 w' w.heap.size (fun k_ => w.heap.size ≤ k_) v0_ r ∧ Below w.heap.size w w' := by
  unfold key_Operation.f at h
  split at h
  · rename_i hs
    injection h with h
    subst h
    refine (operation_calls a0 a1 w hs.1 hs.2).mono ?_
    rintro e w1 ⟨v, rfl, hm, hb⟩
    exact ⟨_, rfl, M_V _ hm, hb⟩
  · cases h

set_option maxHeartbeats 4000000 in
theorem index0 (idx : Int) (V : Array Value) (w : World) (n1 : idx ≠ 1) (n2 : idx ≠ 2) (n3 : idx ≠ 3) (n4 : idx ≠ 4) :
    Calls Try.prog 14 #[.int .i64 idx, .agg V] w fun e w' => e = .returned (.slice none 0 0) ∧ Below w.heap.size w w' := by
  have c1 := decide_eq_false n1
  have c2 := decide_eq_false n2
  have c3 := decide_eq_false n3
  have c4 := decide_eq_false n4
  have d1 : (idx == 1) = false := by simp [n1]
  have d2 : (idx == 2) = false := by simp [n2]
  have d3 : (idx == 3) = false := by simp [n3]
  have d4 : (idx == 4) = false := by simp [n4]
  go_enter Try.func14, Try.ntmps14
  go_wp2
  go_ret
  exact ⟨rfl, (Below.refl _ _).alloc (Nat.le_refl _) _⟩

def idxOf (idx : Int) (s o : ByteArray) (rS rD p : List Int) : List Int :=
  if idx = 1 then bytesOf s ++ [0] ++ rS ++ p else if idx = 2 then bytesOf s ++ [0] ++ (bytesOf o ++ [0]) ++ rS ++ p else if idx = 3 then rD ++ p else if idx = 4 then rS ++ p else []

def key_Index.f (k : Nat) (a0 : Int) (a1_0 : Int) (a1_1 : Int) (a1_2 : Int) (a1_3 : ByteArray) (a1_4 : ByteArray) (a1_5 : Int) (a1_6 : Int) (a1_7 : Int) (l1_8 : List (S51)) (l1_9 : List (S53)) (l1_10 : List (S58)) : Option (List Int) :=
  (key_Primary.f k a1_0 a1_1 a1_2 a1_3 a1_4 a1_5 a1_6 a1_7 l1_8 l1_9 l1_10).bind fun p => (num_Key.f k (IntKind.u64.wrap a1_5)).bind fun rS => (num_Key.f k (IntKind.u64.wrap a1_6)).bind fun rD =>
    if (0 < p.length ∧ p.length ≤ 1000000) ∧ (0 < rS.length ∧ rS.length ≤ 1000000) ∧ (0 < rD.length ∧ rD.length ≤ 1000000) ∧ a1_3.size ≤ 1000000 ∧ a1_4.size ≤ 1000000 then some (idxOf a0 a1_3 a1_4 rS rD p) else none

theorem key_Index.mono : ∀ a0 a1 a2 a3 a4 a5 a6 a7 a8 a9 a10 a11 k, LeO (key_Index.f k a0 a1 a2 a3 a4 a5 a6 a7 a8 a9 a10 a11) (key_Index.f (k + 1) a0 a1 a2 a3 a4 a5 a6 a7 a8 a9 a10 a11) := by
  intro a0 a1 a2 a3 a4 a5 a6 a7 a8 a9 a10 a11 k
  unfold key_Index.f
  exact LeO.bind (key_Primary.mono _ _ _ _ _ _ _ _ _ _ _ _) (fun p => LeO.bind (num_Key.mono _ _) (fun rS => LeO.bind (num_Key.mono _ _) (fun rD => LeO.refl _)))

theorem bind_some_ {α β : Type} {x : Option α} {f : α → Option β} {r : β} (h : x.bind f = some r) : ∃ y, x = some y ∧ f y = some r := by
  cases x with
  | none => cases h
  | some y => exact ⟨y, rfl, h⟩

theorem key_Index.calls (k : Nat) (a0 : Int) (a1_0 : Int) (a1_1 : Int) (a1_2 : Int) (a1_3 : ByteArray) (a1_4 : ByteArray) (a1_5 : Int) (a1_6 : Int) (a1_7 : Int) (A1_8 : Option Addr) (c1_8 : Nat) (l1_8 : List (S51)) (A1_9 : Option Addr) (c1_9 : Nat) (l1_9 : List (S53)) (A1_10 : Option Addr) (c1_10 : Nat) (l1_10 : List (S58)) (r : List Int) (w : World) (hr1_8 : Kd.C k51 w A1_8 l1_8.length l1_8) (hc1_8 : l1_8.length ≤ c1_8) (hr1_9 : Kd.C k53 w A1_9 l1_9.length l1_9) (hc1_9 : l1_9.length ≤ c1_9) (hr1_10 : Kd.C k58 w A1_10 l1_10.length l1_10) (hc1_10 : l1_10.length ≤ c1_10) (h : key_Index.f k a0 a1_0 a1_1 a1_2 a1_3 a1_4 a1_5 a1_6 a1_7 l1_8 l1_9 l1_10 = some r) :
    Calls Try.prog 14 #[.int .i64 a0, .agg #[.int .u64 a1_0, .int .u64 a1_1, .int .u64 a1_2, .string a1_3, .string a1_4, .int .i64 a1_5, .int .i64 a1_6, .int .i64 a1_7, .slice A1_8 l1_8.length c1_8, .slice A1_9 l1_9.length c1_9, .slice A1_10 l1_10.length c1_10]] w fun e w' => ∃ v0_ : Value, e = .returned v0_ ∧ Kd.R (Kd.int .u8) 5 w' w.heap.size (fun _ => True) v0_ r ∧ Below w.heap.size w w' := by
  unfold key_Index.f at h
  obtain ⟨p, hP, h⟩ := bind_some_ h
  obtain ⟨rS, hS, h⟩ := bind_some_ h
  obtain ⟨rD, hD, h⟩ := bind_some_ h
  split at h
  case isFalse => cases h
  rename_i hg
  obtain ⟨⟨p0, p1⟩, ⟨s0, s1⟩, ⟨d0, d1⟩, hs, ho⟩ := hg
  injection h with h
  subst h
  unfold idxOf
  by_cases e1 : a0 = 1
  · subst e1
    rw [if_pos rfl]
    refine (index1 k _ _ _ _ _ _ _ _ _ _ _ _ _ _ _ _ _ w hr1_8 hc1_8 hr1_9 hc1_9 hr1_10 hc1_10 p rS rD hP hS hD p0 p1 s0 s1 d0 d1 hs ho).mono ?_
    rintro e w' ⟨v, rfl, hv, hb⟩
    exact ⟨_, rfl, hv, hb⟩
  rw [if_neg e1]
  by_cases e2 : a0 = 2
  · subst e2
    rw [if_pos rfl]
    refine (index2 k _ _ _ _ _ _ _ _ _ _ _ _ _ _ _ _ _ w hr1_8 hc1_8 hr1_9 hc1_9 hr1_10 hc1_10 p rS rD hP hS hD p0 p1 s0 s1 d0 d1 hs ho).mono ?_
    rintro e w' ⟨v, rfl, hv, hb⟩
    exact ⟨_, rfl, hv, hb⟩
  rw [if_neg e2]
  by_cases e3 : a0 = 3
  · subst e3
    rw [if_pos rfl]
    refine (index3 k _ _ _ _ _ _ _ _ _ _ _ _ _ _ _ _ _ w hr1_8 hc1_8 hr1_9 hc1_9 hr1_10 hc1_10 p rS rD hP hS hD p0 p1 s0 s1 d0 d1 hs ho).mono ?_
    rintro e w' ⟨v, rfl, hv, hb⟩
    exact ⟨_, rfl, hv, hb⟩
  rw [if_neg e3]
  by_cases e4 : a0 = 4
  · subst e4
    rw [if_pos rfl]
    refine (index4 k _ _ _ _ _ _ _ _ _ _ _ _ _ _ _ _ _ w hr1_8 hc1_8 hr1_9 hc1_9 hr1_10 hc1_10 p rS rD hP hS hD p0 p1 s0 s1 d0 d1 hs ho).mono ?_
    rintro e w' ⟨v, rfl, hv, hb⟩
    exact ⟨_, rfl, hv, hb⟩
  rw [if_neg e4]
  refine (index0 a0 _ w e1 e2 e3 e4).mono ?_
  rintro e w' ⟨rfl, hb⟩
  exact ⟨_, rfl, Kd.R_nil _ _ _ _ _, hb⟩

end Go.Proofs.Ytenmjbcedadcbaa.PAll
