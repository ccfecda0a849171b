/- key.Name: its contract, by hand. -/
import Derived.Test.YtenmjbcedadcbaaPAllx0
import Derived.Test.YtenmjbcedadcbaaBlocks
import Derived.Outline
namespace Go.Proofs.Ytenmjbcedadcbaa.PAll
open Go.RowKit Go.Proofs.YtenmjbcedadcbaaW.PrintWords Go.Proofs.YtenmjbcedadcbaaW.PrintLast Go.Proofs.YtenmjbcedadcbaaW.PrintMore Go.Proofs.Ytenmjbcedadcbaa.Math
set_option linter.unusedVariables false
set_option linter.unusedSimpArgs false

def n0 : ByteArray := { data := #[115, 112, 97, 110, 115] }
def n1 : ByteArray := { data := #[98, 121, 45, 115, 101, 114, 118, 105, 99, 101] }
def n2 : ByteArray := { data := #[98, 121, 45, 111, 112, 101, 114, 97, 116, 105, 111, 110] }
def n3 : ByteArray := { data := #[98, 121, 45, 100, 117, 114, 97, 116, 105, 111, 110] }
def n4 : ByteArray := { data := #[98, 121, 45, 116, 105, 109, 101] }

set_option maxHeartbeats 1000000 in
theorem names_calls (w : World) : Calls Try.prog 33 #[] w fun e w' => e = .returned (.agg #[.string n0, .string n1, .string n2, .string n3, .string n4]) ∧ Below w.heap.size w w' := by
  go_enter Try.func33, Try.ntmps33
  go_wp2
  have hi : (Try.prog.info? 60).map (·.size) = some 5 := by kernel_rfl
  exact bodyPost_ret (v := .agg _) (results_cell_row rfl _ _ w.heap.size 60 _ (0, 0) _ rfl (heap_alloc_new w _) Try.underlying60 rfl hi) rfl ⟨rfl, (Below.refl _ _).alloc (Nat.le_refl _) _⟩

def nameOf (i : Int) : ByteArray := if i = 0 then n0 else if i = 1 then n1 else if i = 2 then n2 else if i = 3 then n3 else if i = 4 then n4 else ⟨#[]⟩

def key_Name.f (a0 : Int) : Option ByteArray := some (nameOf a0)

set_option maxHeartbeats 1000000 in
theorem key_Name.calls (a0 : Int) (r : ByteArray) (w : World) (h : key_Name.f a0 = some r) :
    Calls Try.prog 22 #[.int .i64 a0] w fun e w' => e = .returned (.string r) ∧ Below w.heap.size w w' := by
  injection h with h
  subst h
  by_cases c1 : a0 < 0
  · have e : nameOf a0 = ⟨#[]⟩ := by unfold nameOf; rw [if_neg (by omega), if_neg (by omega), if_neg (by omega), if_neg (by omega), if_neg (by omega)]
    rw [e]
    have c1b := decide_eq_true c1
    clear c1 e
    go_enter Try.func22, Try.ntmps22
    go_wp2_with fail
    refine (names_calls _).mono ?_
    rintro e w1 ⟨rfl, hb⟩
    have HB := Lib.hid hb
    clear hb
    go_wp2
    go_ret
    exact ⟨rfl, HB.out.alloc HB.out.size _⟩
  by_cases c2 : 5 ≤ a0
  · have e : nameOf a0 = ⟨#[]⟩ := by unfold nameOf; rw [if_neg (by omega), if_neg (by omega), if_neg (by omega), if_neg (by omega), if_neg (by omega)]
    rw [e]
    have c1b := decide_eq_false c1
    have c2b := decide_eq_true c2
    clear c1 c2 e
    go_enter Try.func22, Try.ntmps22
    go_wp2_with fail
    refine (names_calls _).mono ?_
    rintro e w1 ⟨rfl, hb⟩
    have HB := Lib.hid hb
    clear hb
    go_wp2
    go_ret
    exact ⟨rfl, HB.out.alloc HB.out.size _⟩
  obtain ⟨k, rfl⟩ := Int.eq_ofNat_of_zero_le (show 0 ≤ a0 by omega)
  have hk : k < 5 := by omega
  have all : ∀ w1 : World, (w1.alloc (Obj.cells #[.string n0, .string n1, .string n2, .string n3, .string n4] 60)).cell? ⟨w1.heap.size, k, none⟩ = some (.string (nameOf (k : Int))) := by
    intro w1
    rw [cell_of_row _ _ k _ _ _ (heap_alloc_new w1 _)]
    match k, hk with
    | 0, _ => rfl
    | 1, _ => rfl
    | 2, _ => rfl
    | 3, _ => rfl
    | 4, _ => rfl
  have c1b : decide ((k : Int) < 0) = false := decide_eq_false c1
  have c2b : decide (5 ≤ (k : Int)) = false := decide_eq_false c2
  have q : (k : Int) < 5 := by omega
  have HAll := Lib.hid all
  clear c1 c2 hk all
  go_enter Try.func22, Try.ntmps22
  go_wp2_with fail
  refine (names_calls _).mono ?_
  rintro e w1 ⟨rfl, hb⟩
  have HB := Lib.hid hb
  have hc := HAll.out w1
  clear hb
  go_wp2
  go_ret
  exact ⟨rfl, HB.out.alloc HB.out.size _⟩

end Go.Proofs.Ytenmjbcedadcbaa.PAll
