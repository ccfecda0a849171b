/- The reference's Open, by hand. -/
import Derived.Test.YtmbhedlplmbfoaaPageTurn
namespace Go.Proofs.Ytmbhedlplmbfoaa.PAll
open Go.Proofs.Ytmbhedlplmbfoaa.PageFacts Go.Proofs.Ytmbhedlplmbfoaa.Same Go.RowKit Go.Proofs.YtmbhedlplmbfoaaW.PrintWords Go.Proofs.YtmbhedlplmbfoaaW.PrintLast Go.Proofs.YtmbhedlplmbfoaaW.PrintMore Go.Proofs.Ytmbhedlplmbfoaa.Math
set_option linter.unusedVariables false
set_option linter.unusedSimpArgs false

theorem info_byte : (Try.prog.info? 5).map (fun i => (i.zero, i.size, i.bytes)) = some (some (.int .u8 0), 1, 1) := by kernel_rfl

set_option maxHeartbeats 2000000 in
theorem ropen_calls (no : Int) (A : Option Addr) (c : Nat) (Q : List Int) (w : World) (hQ : Kd.C (Kd.int .u8) w A Q.length Q) (hle : Q.length ≤ c) (hl : Q.length = 1024) (hb : IsB Q) (h0 : 0 ≤ no) (h1 : no ≤ 2147483647) (bo : Bool) (hbo : bo = true ↔ opens no Q) :
    Calls Try.prog 9 #[.int .i64 no, .slice A 1024 c] w fun e w' => ∃ v, e = .returned (.tuple #[v, .int .i64 (if bo then 0 else 4)]) ∧ Kd.R (Kd.int .u8) 5 w' w.heap.size (fun _ => True) v (if bo then Q.take 1016 else []) ∧ Below w.heap.size w w' := by
  have hm : (Q.take 1016).length = 1016 := by rw [List.length_take]; omega
  have hbm : IsB (Q.take 1016) := isB_part hb (fun x hx => List.mem_of_mem_take hx)
  obtain ⟨i0, hi0, hz0, hz1, hz2⟩ := info_parts info_byte
  have hcut := cut_to (P := Try.prog) 23 5 .i64 Try.underlying23 hi0 A 1024 c 1016 (by omega) (by omega) (by omega)
  rw [show (1016 : Int).toNat = 1016 from rfl] at hcut
  have htk := Kd.C_take (m := 1016) hQ (by omega)
  have hfr : ∀ w', Below w.heap.size w w' → Calls Try.prog 11 #[.int .i64 no, .slice A 1016 c] w' fun e w'' => ∃ v0_ : Value, e = .returned (.tuple #[v0_, .int .i64 0]) ∧ Kd.R (Kd.int .u8) 5 w'' w'.heap.size (fun _ => True) v0_ (pageOf no (Q.take 1016)) ∧ Below w'.heap.size w' w'' := by
    intro w' hbw
    have h := cambiumref04_Frame.calls 13000 no A c (Q.take 1016) (pageOf no (Q.take 1016)) 0 w' (Kd.C_below htk hbw) (by omega) (rframe_eq 13000 no _ hbm h0 h1 (by omega) (by omega))
    rw [hm] at h
    exact h
  have hpl := page_len (no := no) (l := Q.take 1016) (by omega)
  have hsame : ∀ (A1 : Option Addr) (c1 : Nat) (w' : World), Below w.heap.size w w' → Kd.C (Kd.int .u8) w' A1 (pageOf no (Q.take 1016)).length (pageOf no (Q.take 1016)) → 1024 ≤ c1 → Calls Try.prog 10 #[.slice A1 1024 c1, .slice A 1024 c] w' fun e w'' => e = .returned (.bool bo) ∧ Drawn0 w' w'' := by
    intro A1 c1 w' hbw hC hc1
    have h := cambiumref01_Same.calls 2000 A1 c1 (pageOf no (Q.take 1016)) A c Q bo w' hC (by omega) (Kd.C_below hQ hbw) hle (by
      rw [same_eq 2000 _ _ (by omega) (by omega)]
      congr 1
      rw [Bool.eq_iff_iff, decide_eq_true_iff, hbo]
      exact again_iff hb hl h0 (by omega))
    rw [hpl, hl] at h
    exact h
  have HFr := Lib.hid hfr
  have HSa := Lib.hid hsame
  have HTk := Lib.hid htk
  have HM := Lib.hid hm
  have HPl := Lib.hid hpl
  have hq : ((1024 : Int) != 1024) = false := by decide
  clear hfr hsame htk hm hpl hbm hbo hb hQ hl hle
  go_enter Try.func9, Try.ntmps9
  go_wp2_with fail
  refine (HFr.out w (Below.refl _ _)).mono ?_
  rintro e w1 ⟨v1, rfl, hr1, hb1⟩
  obtain ⟨A1, c1, rfl, hl1, hC1⟩ := Kd.R_reads hr1
  rw [HPl.out] at hl1
  have HC1 := Lib.hid hC1
  have HB1 := Lib.hid hb1
  rw [HPl.out]
  clear hr1 hb1 hC1
  go_wp2_with fail
  refine (HSa.out A1 c1 w1 HB1.out HC1.out hl1).mono ?_
  rintro e w2 ⟨rfl, hb2⟩
  have HB2 := Lib.hid (below_step HB1.out hb2.below)
  clear hb2
  cases bo with
  | false =>
    go_wp2
    go_ret2
    exact ⟨_, rfl, Kd.R_nil _ _ _ _ _, HB2.out⟩
  | true =>
    go_wp2_with (first
      | ((with_reducible refine gate_dst (N := 26) rfl ?_); refine Kd.R_lit (Kd.int .u8) (w0 := w) w.heap.size 5 ?hg (N := 26) ?hd (xs := ([] : List Int)) (inner := []) (ok := fun _ => True) (okp := fun _ => True) ?hr ?hp (fun _ hk => hk) trivial HB2.out HB2.out.size (by simp) ?_; (case hd => rfl); (case hg => rfl); (case hr => first | (go_simp; done) | (go_simp; rfl)); (case hp => exact (Reps.none _ _)); intro v3 w3 ho hb hg_ hnew_; clear hg_ hnew_; have HO3 := Lib.hid ho; have HB3 := Lib.hid hb; clear ho hb)
      | ((with_reducible refine gate_builtin (b := .append) (xs := #[.tmp 26, .tmp 28]) rfl ?_); at_builtin; refine Kd.R_append_rows (Kd.int .u8) (w0 := w) w.heap.size rfl (.tmp 26) (.tmp 28) 23 5 (.int .u8 0) 1 rfl Try.underlying23 info_byte rfl (by decide) (by omega) v3 [] (Q.take 1016) A 1016 c (fun _ => True) (fun _ => False) rfl rfl HO3.out (by have := Kd.C_below HTk.out HB3.out; rw [HM.out] at this; exact this) (fun _ _ h => h) (fun _ h => h.elim) (fun _ _ => trivial) HB3.out HB3.out.size (by simp) ?_; intro v4 w4 ho hb hg_ hnew_; clear hg_ hnew_; have HO4 := Lib.hid ho; have HB4 := Lib.hid hb; clear ho hb))
    go_ret2
    exact ⟨_, rfl, by simpa using HO4.out, HB4.out⟩

end Go.Proofs.Ytmbhedlplmbfoaa.PAll
