/- The answers that the document fixes for the keys, by hand. -/
import Derived.Test.YtenmjbcedadcbaaExtUn
import Derived.Test.YtenmjbcedadcbaaPLowx1
import Derived.Test.YtenmjbcedadcbaaExtClone
import Derived.Test.YtenmjbcedadcbaaExtEnded
import Derived.Test.YtenmjbcedadcbaaExtName
namespace Go.Proofs.Ytenmjbcedadcbaa.PAll
open Go.RowKit Go.Proofs.YtenmjbcedadcbaaW.PrintWords Go.Proofs.YtenmjbcedadcbaaW.PrintLast Go.Proofs.YtenmjbcedadcbaaW.PrintMore Go.Proofs.Ytenmjbcedadcbaa.Math
set_option linter.unusedVariables false
set_option linter.unusedSimpArgs false

def cambiumlaw18_awake.f : Option Bool := some true

set_option maxHeartbeats 2000000 in
set_option maxRecDepth 20000 in
theorem cambiumlaw18_awake.calls (r : Bool) (w : World) (h : cambiumlaw18_awake.f = some r) :
    Calls Try.prog 7 #[] w fun e w' => e = .returned (.bool r) ∧ Below w.heap.size w w' := by
  injection h with h
  subst h
  obtain ⟨p, hp⟩ : ∃ p : List Int, p = [0, 0, 0, 0, 0, 0, 0, 1, 0, 0, 0, 0, 0, 0, 0, 2] := ⟨_, rfl⟩
  have f1 : PLow.key_Primary.f 9 1 2 0 ⟨#[]⟩ ⟨#[]⟩ 0 0 0 [] [] [] = some p := by rw [hp]; kernel_rfl
  have f2 : PLow.key_FromPrimary.f p = some (1, 2, true) := by rw [hp]; kernel_rfl
  have hpl : p.length = 16 := by rw [hp]; rfl
  have h7 : rd p 7 = 1 := by rw [hp]; rfl
  have h15 : rd p 15 = 2 := by rw [hp]; rfl
  have F1 := Lib.hid f1
  have F2 := Lib.hid f2
  have HPl := Lib.hid hpl
  have H7 := Lib.hid h7
  have H15 := Lib.hid h15
  clear f1 f2 hpl h7 h15 hp
  go_enter Try.func7, Try.ntmps7
  go_wp2_with fail
  refine (PLow.key_Primary.calls 9 1 2 0 ⟨#[]⟩ ⟨#[]⟩ 0 0 0 none 0 [] none 0 [] none 0 [] p _ (Kd.R_reads' (Kd.R_nil _ 0 _ 0 (fun _ => True))).2.2 (Nat.le_refl _) (Kd.R_reads' (Kd.R_nil _ 0 _ 0 (fun _ => True))).2.2 (Nat.le_refl _) (Kd.R_reads' (Kd.R_nil _ 0 _ 0 (fun _ => True))).2.2 (Nat.le_refl _) F1.out).mono ?_
  rintro e w1 ⟨v, rfl, hv, hb⟩
  obtain ⟨A, c, rfl⟩ := Kd.R_slice hv
  have hc := (Kd.R_reads' hv).2.2
  have HB1 := Lib.hid hb
  have HC1 := Lib.hid hc
  have HCc := Lib.hid (Kd.R_reads' hv).2.1
  clear hb hc hv
  go_wp2_with fail
  refine (PLow.key_FromPrimary.calls A c p 1 2 true _ HC1.out HCc.out F2.out).mono ?_
  rintro e w2 ⟨rfl, hb⟩
  have HB2 := Lib.hid (below_step HB1.out hb)
  have hc2 := Kd.C_below HC1.out hb
  obtain ⟨ad, rfl, hx7⟩ := Kd.at_int hc2 7 (by omega) (by have := HPl.out; omega)
  obtain ⟨ad', hA, hx15⟩ := Kd.at_int hc2 15 (by omega) (by have := HPl.out; omega)
  injection hA with hA
  subst hA
  rw [H7.out] at hx7
  rw [H15.out] at hx15
  change w2.cell? (ad.add 7) = _ at hx7
  change w2.cell? (ad.add 15) = _ at hx15
  rw [show ad.add 7 = { block := ad.block, off := ad.off + 7 } by simp [Addr.add]] at hx7
  rw [show ad.add 15 = { block := ad.block, off := ad.off + 15 } by simp [Addr.add]] at hx15
  have hn : n0.toList = [115, 112, 97, 110, 115] := by first | rfl | kernel_rfl | (unfold n0; simp)
  have hlen := HPl.out
  rw [hlen]
  clear hb hc2 HB1
  go_wp2_with fail
  refine (key_Name.calls 0 n0 _ rfl).mono ?_
  rintro e w3 ⟨rfl, hb⟩
  have HB3 := Lib.hid (below_step HB2.out hb)
  clear hb HB2
  go_wp2_with fail
  refine (key_Name.calls 5 ⟨#[]⟩ _ rfl).mono ?_
  rintro e w4 ⟨rfl, hb⟩
  have HB4 := Lib.hid (below_step HB3.out hb)
  clear hb HB3
  go_wp2_with fail
  refine (service_calls ⟨#[120]⟩ _ (by decide)).mono ?_
  rintro e w5 ⟨v5, rfl, hm, hb⟩
  obtain ⟨A5, c5, rfl, _, _⟩ := M_C hm
  have HB5 := Lib.hid (below_step HB4.out hb)
  clear hb HB4 hm
  go_wp2
  go_ret
  exact ⟨rfl, HB5.out⟩

end Go.Proofs.Ytenmjbcedadcbaa.PAll
