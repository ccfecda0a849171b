/- page.Torn: its contract, by hand. -/
import Derived.Test.YtblacdnndchghaaExtClone
namespace Go.Proofs.Ytblacdnndchghaa.PAll
open Go.RowKit Go.Proofs.YtblacdnndchghaaW.PrintWords Go.Proofs.YtblacdnndchghaaW.PrintLast Go.Proofs.YtblacdnndchghaaW.PrintMore Go.Proofs.Ytblacdnndchghaa.Math
set_option linter.unusedVariables false
set_option linter.unusedSimpArgs false

set_option maxRecDepth 20000 in
theorem wpList_not_u8 {P : Program} {ops : Array Oper} {rest : List Oper} {o : Oper} {a : Act} {w : World} {Q : Exit → Act → World → Prop} (hgd : o.guard = none) (ty : TypeId) (x : Operand) (ho : o.op = .unOp .xor ty x)
    (s : Nat) (hs : s < 256) (hx : a.eval x = .int .u8 (s : Int)) (h : wpList P ops Q rest (a.put o.dst (.int .u8 (255 - (s : Int)))) w) : wpList P ops Q (o :: rest) a w :=
  wpList_plain hgd fun K hK => by
    have e : Op.unary .xor (.int .u8 (s : Int)) = pure (.int .u8 (255 - (s : Int))) := by
      have h1 : Go.bits .xor .u8 255 (s : Int) = 255 - (s : Int) := by
        have key : ∀ t : Fin 256, Go.bits .xor .u8 255 ((t : Nat) : Int) = 255 - ((t : Nat) : Int) := by decide
        exact key ⟨s, hs⟩
      rw [← h1]
      rfl
    unfold Oper.wp execOp
    simp only [ho, hx, e, pure_bind]
    exact hK _ _ h

/-- A page that was torn: its last byte turned. -/
def torn (l : List Int) : List Int := if l = [] then [] else l.set (l.length - 1) (255 - rd l ((l.length - 1 : Nat) : Int))
def page_Torn.f (l0 : List Int) : Option (List Int) := if l0.length < 140737488355328 ∧ IsB l0 then some (torn l0) else none

set_option maxHeartbeats 1000000 in
set_option maxRecDepth 20000 in
theorem page_Torn.calls (A0 : Option Addr) (c0 : Nat) (l0 : List Int) (r : List Int) (w : World) (hr0 : Kd.C (Kd.int .u8) w A0 l0.length l0) (hc0 : l0.length ≤ c0) (h : page_Torn.f l0 = some r) :
    Calls Try.prog 35 #[.slice A0 l0.length c0] w fun e w' => ∃ v0_ : Value, e = .returned (v0_) ∧ Kd.R (Kd.int .u8) 5 w' w.heap.size (fun _ => True) v0_ r ∧ Below w.heap.size w w' := by
  unfold page_Torn.f at h
  split at h
  case isFalse => cases h
  rename_i hp
  obtain ⟨hl, hb⟩ := hp
  injection h with h
  subst h
  have hcl : bytes_Clone.f l0 = some l0 := by unfold bytes_Clone.f; rw [if_pos hl]
  rcases Nat.eq_zero_or_pos l0.length with h0 | h0
  · have hn := List.eq_nil_of_length_eq_zero h0
    subst hn
    have HR := Lib.hid hr0
    have HC := Lib.hid hcl
    clear hr0 hcl hl hb h0
    go_enter Try.func35, Try.ntmps35
    go_wp2_with fail
    refine (bytes_Clone.calls A0 c0 [] [] _ HR.out (Nat.zero_le _) HC.out).mono ?_
    rintro e w1 ⟨v, rfl, hv, hb⟩
    obtain ⟨A, c, rfl⟩ := Kd.R_slice hv
    have HV := Lib.hid hv
    have HB := Lib.hid hb
    clear hv hb
    go_wp2
    go_ret
    exact ⟨_, rfl, HV.out, HB.out⟩
  · obtain ⟨m, hm⟩ : ∃ m, l0.length = m + 1 := ⟨l0.length - 1, by omega⟩
    have hx := hb _ (rd_mem (l := l0) (k := m) (by omega))
    obtain ⟨b, hbv⟩ := Int.eq_ofNat_of_zero_le hx.1
    have hb2 : b < 256 := by omega
    have ht : torn l0 = l0.set m (255 - (b : Int)) := by
      unfold torn
      rw [if_neg (by intro h1; rw [h1] at h0; simp at h0), show l0.length - 1 = m by omega, hbv]
    rw [ht]
    have HR := Lib.hid hr0
    have HC := Lib.hid hcl
    have HBv := Lib.hid hbv
    have HM := Lib.hid hm
    have HB2 := Lib.hid hb2
    have HC0 := Lib.hid hc0
    have HL := Lib.hid hl
    clear hr0 hcl hl hb h0 hm hbv hb2 hx ht hc0
    go_enter Try.func35, Try.ntmps35
    go_wp2_with fail
    refine (bytes_Clone.calls A0 c0 l0 l0 _ HR.out HC0.out HC.out).mono ?_
    rintro e w1 ⟨v, rfl, hv, hb⟩
    obtain ⟨A, c, rfl⟩ := Kd.R_slice hv
    obtain ⟨ad, rfl, _⟩ := Kd.at_int (Kd.R_reads' hv).2.2 0 (by omega) (by have := HM.out; omega)
    obtain ⟨g, rfl⟩ := Kd.R_head hv
    have hcell := Kd.R_cell (0 : Int) hv (m : Int) (by omega) (by have := HM.out; omega)
    have hput := Kd.R_put hv (m : Int) (255 - (b : Int))
    rw [Int.toNat_natCast] at hcell hput
    have hrd : rdOf (0 : Int) l0 (m : Int) = (b : Int) := HBv.out
    rw [hrd] at hcell
    obtain ⟨h1, h2⟩ := hcell
    have HP := Lib.hid hput
    have HG := Lib.hid (show w.heap.size ≤ g from Kd.R_base hv g rfl)
    have HB := Lib.hid hb
    have hlen : l0.length = m + 1 := HM.out
    have hw : wrap64 (m : Int) = (m : Int) := wrap_id (by omega) (by have := HL.out; omega)
    rw [hlen]
    clear hv hput hb hrd
    go_wp2_with ((with_reducible refine gate_dst (N := 19) rfl ?_); refine wpList_not_u8 rfl 5 (.tmp 18) rfl b HB2.out rfl ?_)
    go_ret
    refine ⟨_, rfl, ?_, ?_⟩
    · have := HP.out.1
      rw [hlen] at this
      exact this
    · exact HB.out.grown HP.out.2 HB.out.size (by intro k hk; injection hk with hk; subst hk; exact HG.out)

end Go.Proofs.Ytblacdnndchghaa.PAll
