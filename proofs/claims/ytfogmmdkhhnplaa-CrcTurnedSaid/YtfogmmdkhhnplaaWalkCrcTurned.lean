/- CrcTurned: a row of which one bit, or some bits within 32 that stand together, were turned has another sum. The law's guard: 4096 bytes. -/
import Derived.Test.YtfogmmdkhhnplaaCrcFacts
import Derived.Test.YtfogmmdkhhnplaaExtCrcAwake
import Derived.Test.YtfogmmdkhhnplaaBlocks
import Derived.Test.YtfogmmdkhhnplaaTurned
import Derived.BigRegion
import Derived.Outline
import Derived.Deep.RegionHeld3
import Derived.ChangeKeysEq
namespace Go.Proofs.Ytfogmmdkhhnplaa.Walk
open Go.RowKit Go.Proofs.Ytfogmmdkhhnplaa.PAll Go.Proofs.YtfogmmdkhhnplaaW.PrintWords Go.Proofs.YtfogmmdkhhnplaaW.PrintLast Go.Proofs.YtfogmmdkhhnplaaW.PrintMore Go.Proofs.Ytfogmmdkhhnplaa.Math Go.Proofs.Ytfogmmdkhhnplaa.CrcFacts
set_option linter.unusedVariables false
set_option linter.unusedSimpArgs false

theorem wrapEq (x : Int) : IntKind.i64.wrap x = wrap64 x := by rw [IntKind.wrap_i64]; unfold wrap64; omega
theorem eq4 (w : World) (y0 y1 y2 y3 : Int) : (Op.equalIn 10000 31 (.agg #[.int .u8 y0, .int .u8 y1, .int .u8 y2, .int .u8 y3]) (.agg #[.int .u8 0, .int .u8 0, .int .u8 0, .int .u8 0])).run Try.prog w = .ok (y0 == 0 && (y1 == 0 && (y2 == 0 && y3 == 0))) w := by
  obtain ⟨i, hi, _, hs, _⟩ := info_parts info5
  have hc : Try.prog.cellsOf 5 = 1 := by kernel_rfl
  have hu := Try.underlying5
  rw [run_equalIn_array w 9999 _ _ Try.underlying31 hi, hc]
  simp only [show List.range 4 = [0, 1, 2, 3] from rfl, Op.eqItems]
  go_simp
  by_cases h0 : y0 = 0 <;> by_cases h1 : y1 = 0 <;> by_cases h2 : y2 = 0 <;> by_cases h3 : y3 = 0 <;> simp [h0, h1, h2, h3]

set_option maxHeartbeats 1000000 in
set_option maxRecDepth 20000 in
theorem CrcTurned (W : World) (A : Option Addr) (c : Nat) (l : List Int) (hl : l.length ≤ c) (hc : Kd.C (Kd.int .u8) W A l.length l)
    (hg : (∀ x ∈ l, (Lit.int .u8 x).wf = true) ∧ l.length * 1 ≤ 140737488351232) (a : Int) (ha : (Lit.int .u16 a).wf = true) (y : List Int) (hyl : y.length = 4) (hyw : ∀ x ∈ y, (Lit.int .u8 x).wf = true) :
    Calls Try.prog 5 #[.slice A l.length c, .int .u16 a, .agg (y.map (Value.int .u8)).toArray] W fun e w' => e = .returned (.bool true) ∧ Below W.heap.size W w' := by
  have hb := isB_of_wf hg.1
  have hyb := isB_of_wf hyw
  have b0 : 0 ≤ a ∧ a < 65536 := by
    simp [Lit.wf, IntKind.min, IntKind.max, IntKind.bits, IntKind.signed] at ha; omega
  have kn : ∀ W : World, W = W := fun _ => rfl
  match y, hyl with
  | [y0, y1, y2, y3], _ =>
  simp only [List.map_cons, List.map_nil]
  by_cases c1 : 4096 < l.length
  · have c1b : decide (4096 < l.length) = true := decide_eq_true c1
    have c1c : decide (4096 < (l.length : Int)) = true := decide_eq_true (by omega)
    clear c1 b0 ha hg
    go_enter Try.func5, Try.ntmps5
    go_wp2_with fail
    refine (cambiumlaw03_awake.calls true _ rfl).mono ?_
    rintro e w1 ⟨rfl, hbe⟩
    go_wp2
    go_ret
    exact ⟨rfl, below_step ((Below.refl W.heap.size W).alloc (Nat.le_refl _) _) hbe⟩
  by_cases c2 : l.length < 4
  · have c1b : decide (4096 < l.length) = false := decide_eq_false c1
    have c1c : decide (4096 < (l.length : Int)) = false := decide_eq_false (by omega)
    have c2b : decide (l.length < 4) = true := decide_eq_true c2
    have c2c : decide ((l.length : Int) < 4) = true := decide_eq_true (by omega)
    clear c1 c2 b0 ha hg
    go_enter Try.func5, Try.ntmps5
    go_wp2_with fail
    refine (cambiumlaw03_awake.calls true _ rfl).mono ?_
    rintro e w1 ⟨rfl, hbe⟩
    go_wp2
    go_ret
    exact ⟨rfl, below_step ((Below.refl W.heap.size W).alloc (Nat.le_refl _) _) hbe⟩
  have c1b : decide (4096 < l.length) = false := decide_eq_false c1
  have c1c : decide (4096 < (l.length : Int)) = false := decide_eq_false (by omega)
  have c2b : decide (l.length < 4) = false := decide_eq_false c2
  have c2c : decide ((l.length : Int) < 4) = false := decide_eq_false (by omega)
  have hm0 : 0 ≤ Int.tmod a ((l.length : Int) - 3) := by rw [Int.tmod_eq_emod_of_nonneg b0.1]; exact Int.emod_nonneg _ (by omega)
  have hm1 : Int.tmod a ((l.length : Int) - 3) < (l.length : Int) - 3 := by rw [Int.tmod_eq_emod_of_nonneg b0.1]; exact Int.emod_lt_of_pos _ (by omega)
  obtain ⟨i, hi⟩ := Int.eq_ofNat_of_zero_le hm0
  rw [hi] at hm1
  have hil : i + 3 < l.length := by omega
  have hll : l.length ≤ 4096 := by omega
  have e0 : ((l.length : Int) - 3 == 0) = false := beq_eq_false_iff_ne.mpr (by omega)
  have e00 : ¬ ((l.length : Int) - 3 = 0) := by omega
  have hw1 : wrap64 a = a := wrap_id (by omega) (by omega)
  have hw2 : wrap64 ((l.length : Int) - 3) = (l.length : Int) - 3 := wrap_id (by omega) (by omega)
  have HC := Lib.hid hc
  have HCap := Lib.hid hl
  have HI := Lib.hid hil
  have HL := Lib.hid hll
  have HBy := Lib.hid hb
  have HY := Lib.hid hyb
  clear hc hl hil hll hb hyb c1 c2 b0 ha hg hm0 hm1 hyw
  go_enter Try.func5, Try.ntmps5
  go_wp2_with fail
  have hblk := heap_alloc_new W (Obj.cells #[Value.int .u8 y0, Value.int .u8 y1, Value.int .u8 y2, Value.int .u8 y3] 31)
  have hba : Below W.heap.size W (W.alloc (Obj.cells #[Value.int .u8 y0, Value.int .u8 y1, Value.int .u8 y2, Value.int .u8 y3] 31)) := (Below.refl W.heap.size W).alloc (Nat.le_refl _) _
  refine (cambiumlaw03_awake.calls true _ rfl).mono ?_
  rintro e w1 ⟨rfl, hbe⟩
  have HB1 := Lib.hid (below_step hba hbe)
  have HK1 := Lib.hid (block_below hblk hbe)
  clear hblk hba hbe
  go_wp2_with (first | ((with_reducible refine gate_dst (N := 26) rfl ?_); refine Kd.R_lit (Kd.int .u8) _ 5 ?hg (N := 26) ?hd (xs := ([] : List Int)) (inner := []) (ok := fun _ => True) (okp := fun _ => True) ?hr ?hp (fun _ hk => hk) trivial (Below.refl _ _) (Nat.le_refl _) (by simp) ?_; (case hd => rfl); (case hg => rfl); (case hr => first | (go_simp; done) | (go_simp; rfl)); (case hp => exact (Reps.none _ _)); intro v1 w2 ho hb hg_ hnew_; clear hg_ hnew_; have HO := Lib.hid ho; have HB2 := Lib.hid (below_step HB1.out hb); have HSz := Lib.hid hb.size; have HK2 := Lib.hid (block_below HK1.out hb); clear ho hb) | ((with_reducible refine gate_builtin (b := .append) (xs := #[.tmp 26, .tmp 27]) rfl ?_); at_builtin; refine Kd.R_append_rows (Kd.int .u8) (w0 := w2) w1.heap.size rfl (.tmp 26) (.tmp 27) 22 5 (.int .u8 0) 1 rfl Try.underlying22 info5 rfl (by decide) (by omega) v1 [] l _ _ _ (fun _ => True) (fun _ => False) rfl rfl ?aO ?aR (fun _ _ h => h) (fun _ h => h.elim) ?aF ?aB ?aS ?aL ?_; (case aR => exact Kd.C_below HC.out HB2.out); (case aB => exact Below.refl _ _); (case aF => exact (fun _ _ => trivial)); (case aO => exact HO.out); (case aS => exact HSz.out); (case aL => have := HL.out; simp; omega); intro v2 w3 ho hb hg hat; have HO2 := Lib.hid ho; have HB3 := Lib.hid hb; have HGr := Lib.hid hg; have HAt := Lib.hid hat; clear ho hb hg hat))
  obtain ⟨A2, cap2, rfl⟩ := Kd.R_slice HO2.out
  obtain ⟨ad2, rfl, _⟩ := Kd.at_int (Kd.R_reads' HO2.out).2.2 0 (by omega) (by have := HI.out; simp; omega)
  obtain ⟨g, rfl⟩ := Kd.R_head HO2.out
  have hgb : w1.heap.size ≤ g := Kd.R_base HO2.out g rfl
  have hWs : W.heap.size < w1.heap.size := by
    rcases Nat.lt_or_ge W.heap.size w1.heap.size with h1 | h1
    · exact h1
    · have := HK1.out; rw [Array.getElem?_eq_none h1] at this; cases this
  have HK3 := Lib.hid ((HB3.out.block W.heap.size hWs).trans HK2.out)
  have HBW := Lib.hid (HB2.out.trans (HB3.out.mono (Nat.le_of_lt hWs)))
  have HGW := Lib.hid (show W.heap.size ≠ g by omega)
  have HG2 := Lib.hid (show W.heap.size ≤ g by omega)
  have hr3 := HO2.out
  simp only [List.nil_append] at hr3
  have HR3 := Lib.hid hr3
  obtain ⟨yy, hyy⟩ : ∃ yy : List Int, yy = [y0, y1, y2, y3] := ⟨_, rfl⟩
  clear HO2 HO HB2 HB3 HK2 HK1 HGr HAt HSz hgb hWs hr3 hw1 hw2 hi e0 e00
  go_loopw [9] (fun v wr => ∃ k : Nat, k ≤ 4 ∧ v = .int .i64 k ∧ Hid (Kd.R (Kd.int .u8) 5 wr w1.heap.size (fun _ => True) (.slice (some ⟨g, 0, none⟩) l.length cap2) (turned l yy i k)) ∧ Hid (wr.heap[W.heap.size]? = some (Obj.cells #[Value.int .u8 y0, Value.int .u8 y1, Value.int .u8 y2, Value.int .u8 y3] 31 (0, 0))) ∧ Hid (Below W.heap.size W wr)) (fun v _ => 4 - (intOf v).toNat)
  case atStart => exact ⟨0, by omega, rfl, HR3, HK3, HBW⟩
  case round =>
    clear HR3 HK3 HBW
    obtain ⟨k, hk, rfl, HR, HK, HB⟩ := hrel
    by_cases hlt : k < 4
    · have hil : i + k < l.length := by have := HI.out; omega
      have hlen := turned_len l yy i k
      have hR1 := HR.out
      rw [← hlen] at hR1
      have hcell := Kd.R_cell (0 : Int) hR1 ((i + k : Nat) : Int) (by omega) (by omega)
      have hput := Kd.R_put hR1 ((i + k : Nat) : Int) (bx (rd (turned l yy i k) ((i + k : Nat) : Int)) (rd yy (k : Int)))
      rw [Int.toNat_natCast, hlen] at hput
      rw [Int.toNat_natCast] at hcell
      change (wr.cell? ⟨g, i + k, none⟩ = some (.int .u8 (rd (turned l yy i k) ((i + k : Nat) : Int))) ∧ _) at hcell
      change (_ ∧ _) at hput
      obtain ⟨h1, h2⟩ := hcell
      have h3 : wr.cell? ⟨W.heap.size, k, none⟩ = some (.int .u8 (rd yy (k : Int))) := by
        rw [blk_cell HK.out k, hyy]
        match k, hlt with
        | 0, _ => rfl
        | 1, _ => rfl
        | 2, _ => rfl
        | 3, _ => rfl
      rw [show (turned l yy i k).set (i + k) (bx (rd (turned l yy i k) ((i + k : Nat) : Int)) (rd yy (k : Int))) = turned l yy i (k + 1) from rfl] at hput
      generalize rd (turned l yy i k) ((i + k : Nat) : Int) = xv at h1 hput
      generalize rd yy (k : Int) = yv at h3 hput
      have hWl : W.heap.size < wr.heap.size := by
        rcases Nat.lt_or_ge W.heap.size wr.heap.size with h1 | h1
        · exact h1
        · have := HK.out; rw [Array.getElem?_eq_none h1] at this; cases this
      have HWl := Lib.hid hWl
      clear hWl
      have hs1 : IntKind.i64.wrap ((i : Int) + (k : Int)) = ((i + k : Nat) : Int) := by rw [wrapEq]; have := HL.out; exact wrap_id (by omega) (by omega)
      have HP := Lib.hid hput
      clear hput hR1 hyy
      have q1 : (k : Int) < 4 := by omega
      have q2 : ((i + k : Nat) : Int) < (l.length : Int) := by omega
      clear hlen hil
      go_wp2
      go_region
      go_wp2
      go_roundw
      case rel =>
        refine ⟨k + 1, by omega, by go_num, Lib.hid ?_, Lib.hid ?_, Lib.hid ?_⟩
        · exact Kd.R_move HP.out.1 (fun _ _ => rfl)
        · exact (HP.out.2.block W.heap.size HWl.out (by intro h; injection h with h; exact HGW.out h)).trans HK.out
        · exact below_drew1 (HB.out.grown HP.out.2 HB.out.size (by intro k' hk'; injection hk' with hk'; subst hk'; exact HG2.out))
      case measure => simp [intOf]; omega
    · have hk4 : k = 4 := by omega
      subst hk4
      have hlen := turned_len l yy i 4
      have hR1 := HR.out
      rw [← hlen] at hR1
      have hcT := (Kd.R_reads' hR1).2.2
      have hsum1 : crc_Sum.f (turned l yy i 4) = some (crcSum (turned l yy i 4)) := by
        unfold crc_Sum.f; rw [if_pos (by rw [hyy]; exact turned_isB HI.out HBy.out HY.out)]
      have hsum2 : crc_Sum.f l = some (crcSum l) := by unfold crc_Sum.f; rw [if_pos HBy.out]
      have hfin : (crcSum (turned l yy i 4) == crcSum l) = (y0 == 0 && (y1 == 0 && (y2 == 0 && y3 == 0))) := by
        rw [Bool.eq_iff_iff]
        simp only [beq_iff_eq, Bool.and_eq_true]
        rw [hyy]
        exact turned_sum HI.out HBy.out HY.out
      obtain ⟨s1, hs1⟩ : ∃ s1, s1 = crcSum (turned l yy i 4) := ⟨_, rfl⟩
      obtain ⟨s2, hs2⟩ : ∃ s2, s2 = crcSum l := ⟨_, rfl⟩
      rw [← hs1] at hsum1 hfin
      rw [← hs2] at hsum2 hfin
      have hcall1 : ∀ w', Below wr.heap.size wr w' → Calls Try.prog 8 #[.slice (some ⟨g, 0, none⟩) l.length cap2] w' fun e w'' => e = .returned (.int .u32 s1) ∧ Below w'.heap.size w' w'' := by
        intro w' hw
        have h2 := crc_Sum.calls (some ⟨g, 0, none⟩) cap2 (turned l yy i 4) s1 w' (Kd.C_below hcT hw) (by rw [hlen]; have := (Kd.R_reads' HR.out).2.1; exact this) hsum1
        rw [hlen] at h2
        exact h2
      have hcall2 : ∀ w', Below W.heap.size W w' → Calls Try.prog 8 #[.slice A l.length c] w' fun e w'' => e = .returned (.int .u32 s2) ∧ Below w'.heap.size w' w'' := by
        intro w' hw
        exact crc_Sum.calls A c l s2 w' (Kd.C_below HC.out hw) HCap.out hsum2
      have HC1 := Lib.hid hcall1
      have HC2 := Lib.hid hcall2
      have HF := Lib.hid hfin
      clear hcall1 hcall2 hfin hsum1 hsum2 hs1 hs2 hlen hR1 hcT hyy HR
      obtain ⟨O, hO⟩ : ∃ O : Obj, O = Obj.cells #[Value.int .u8 y0, Value.int .u8 y1, Value.int .u8 y2, Value.int .u8 y3] 31 (0, 0) := ⟨_, rfl⟩
      have hcells : ∀ w' : World, w'.heap[W.heap.size]? = some O → w'.cell? ⟨W.heap.size, 0, none⟩ = some (.int .u8 y0) ∧ w'.cell? ⟨W.heap.size, 1, none⟩ = some (.int .u8 y1) ∧ w'.cell? ⟨W.heap.size, 2, none⟩ = some (.int .u8 y2) ∧ w'.cell? ⟨W.heap.size, 3, none⟩ = some (.int .u8 y3) := by
        intro w' h
        rw [hO] at h
        exact ⟨blk_cell h 0, blk_cell h 1, blk_cell h 2, blk_cell h 3⟩
      have hk := HK.out
      rw [← hO] at hk
      have HCe := Lib.hid hcells
      have HK4 := Lib.hid hk
      clear hcells hk hO
      have heq := fun w => eq4 w y0 y1 y2 y3
      have S0 := HCe.out wr HK4.out
      have S1 := HCe.out wr.drew HK4.out
      go_wp2
      go_region_held3 (fun w' => w'.cell? ⟨W.heap.size, 0, none⟩ = some (.int .u8 y0) ∧ w'.cell? ⟨W.heap.size, 1, none⟩ = some (.int .u8 y1) ∧ w'.cell? ⟨W.heap.size, 2, none⟩ = some (.int .u8 y2) ∧ w'.cell? ⟨W.heap.size, 3, none⟩ = some (.int .u8 y3))
        (first | exact S0 | exact S1 | exact S5 | exact S6)
        (first
          | (go_at_call 8; refine (HC1.out wr.drew ((Below.refl _ _).drew)).mono ?_; rintro e w5 ⟨rfl, hb⟩; have HB5 := Lib.hid (below_step (below_drew1 HB.out) hb); have HK5 := Lib.hid (block_below (w := wr.drew) HK4.out hb); have S5 := HCe.out w5 HK5.out; clear hb)
          | (go_at_call 8; refine (HC2.out w5 HB5.out).mono ?_; rintro e w6 ⟨rfl, hb⟩; have HB6 := Lib.hid (below_step HB5.out hb); have HK6 := Lib.hid (block_below (w := w5) HK5.out hb); have S6 := HCe.out w6 HK6.out; clear hb))
      go_wp2
      go_ret
      refine ⟨?_, HB6.out⟩
      rw [HF.out]
      simp

end Go.Proofs.Ytfogmmdkhhnplaa.Walk
