/- PageTurned: a page of which some bytes within four that stand together were turned isn't opened, unless none was. The law's guard: what the page says has 1016 bytes at most. -/
import Derived.Test.YtmbhedlplmbfoaaRefOpen
import Derived.Test.YtmbhedlplmbfoaaReads
import Derived.BigRegion
import Derived.Deep.RegionHeld3
import Derived.ChangeKeysEq
namespace Go.Proofs.Ytmbhedlplmbfoaa.Walk
open Go.Proofs.Ytmbhedlplmbfoaa.PageFacts Go.Proofs.Ytmbhedlplmbfoaa.Same Go.RowKit Go.Proofs.Ytmbhedlplmbfoaa.PAll Go.Proofs.YtmbhedlplmbfoaaW.PrintWords Go.Proofs.YtmbhedlplmbfoaaW.PrintLast Go.Proofs.YtmbhedlplmbfoaaW.PrintMore Go.Proofs.Ytmbhedlplmbfoaa.Math
set_option linter.unusedVariables false
set_option linter.unusedSimpArgs false

theorem wrapEq (x : Int) : IntKind.i64.wrap x = wrap64 x := by rw [IntKind.wrap_i64]; unfold wrap64; omega
theorem eq4 (w : World) (y0 y1 y2 y3 : Int) : (Op.equalIn 10000 24 (.agg #[.int .u8 y0, .int .u8 y1, .int .u8 y2, .int .u8 y3]) (.agg #[.int .u8 0, .int .u8 0, .int .u8 0, .int .u8 0])).run Try.prog w = .ok (y0 == 0 && (y1 == 0 && (y2 == 0 && y3 == 0))) w := by
  obtain ⟨i, hi, _, hs, _⟩ := info_parts info_byte
  have hc : Try.prog.cellsOf 5 = 1 := by kernel_rfl
  have hu := Try.underlying5
  rw [run_equalIn_array w 9999 _ _ Try.underlying24 hi, hc]
  simp only [show List.range 4 = [0, 1, 2, 3] from rfl, Op.eqItems]
  go_simp
  by_cases h0 : y0 = 0 <;> by_cases h1 : y1 = 0 <;> by_cases h2 : y2 = 0 <;> by_cases h3 : y3 = 0 <;> simp [h0, h1, h2, h3]

set_option maxHeartbeats 4000000 in
set_option maxRecDepth 20000 in
theorem PageTurned (W : World) (no : Int) (hno : (Lit.int .u16 no).wf = true) (A : Option Addr) (c : Nat) (l : List Int) (hl : l.length ≤ c) (hc : Kd.C (Kd.int .u8) W A l.length l)
    (hg : (∀ x ∈ l, (Lit.int .u8 x).wf = true) ∧ l.length * 1 ≤ 140737488351232) (x : S26) (cs : Array Value) (hk : k26.K W x cs.toList) (hG : Go.Proofs.Ytmbhedlplmbfoaa.Open.G26 x) :
    Calls Try.prog 3 #[.int .u16 no, .slice A l.length c, .agg cs] W fun e w' => e = .returned (.bool true) ∧ Below W.heap.size W w' := by
  obtain ⟨hcs, hy4⟩ := turn_open hk
  obtain ⟨ha, _, hyw⟩ := hG
  obtain ⟨a, y⟩ := x
  have hcs' : cs = (.int .u16 a :: y.map (Value.int .u8)).toArray := by rw [← hcs]
  subst hcs'
  have hb := isB_of_wf hg.1
  have hyb := isB_of_wf hyw
  have hy4' : y.length = 4 := hy4
  have b0 : 0 ≤ a ∧ a < 65536 := by
    simp [Lit.wf, IntKind.min, IntKind.max, IntKind.bits, IntKind.signed] at ha; omega
  have n0 : 0 ≤ no ∧ no < 65536 := by
    simp [Lit.wf, IntKind.min, IntKind.max, IntKind.bits, IntKind.signed] at hno; omega
  clear hcs hk hno ha hyw hy4
  match y, hy4', hyb with
  | [y0, y1, y2, y3], _, hyb =>
  simp only [List.map_cons, List.map_nil]
  have hwn : wrap64 no = no := wrap_id (by omega) (by omega)
  by_cases c1 : 1016 < l.length
  · have c1b : decide (1016 < l.length) = true := decide_eq_true c1
    have c1c : decide (1016 < (l.length : Int)) = true := decide_eq_true (by omega)
    clear c1 b0 n0 hg
    go_enter Try.func3, Try.ntmps3
    go_wp2_with fail
    refine (cambiumlaw04_awake.calls true _ rfl).mono ?_
    rintro e w1 ⟨rfl, hbe⟩
    go_wp2
    go_ret
    exact ⟨rfl, below_step ((Below.refl W.heap.size W).alloc (Nat.le_refl _) _) hbe⟩
  have c1b : decide (1016 < l.length) = false := decide_eq_false c1
  have c1c : decide (1016 < (l.length : Int)) = false := decide_eq_false (by omega)
  have hl2 : l.length ≤ 1016 := by omega
  have hm0 : 0 ≤ Int.tmod a 1021 := by rw [Int.tmod_eq_emod_of_nonneg b0.1]; exact Int.emod_nonneg _ (by omega)
  have hm1 : Int.tmod a 1021 < 1021 := by rw [Int.tmod_eq_emod_of_nonneg b0.1]; exact Int.emod_lt_of_pos _ (by omega)
  have hmm : a % 1021 = Int.tmod a 1021 := (Int.tmod_eq_emod_of_nonneg b0.1).symm
  obtain ⟨i, hi⟩ := Int.eq_ofNat_of_zero_le hm0
  rw [hi] at hm1 hmm
  have hw1 : wrap64 a = a := wrap_id (by omega) (by omega)
  have HC := Lib.hid hc
  have HCap := Lib.hid hl
  have HI := Lib.hid (show i ≤ 1020 by omega)
  have HBy := Lib.hid hb
  have HY := Lib.hid hyb
  have HN0 := Lib.hid n0
  have HL2 := Lib.hid hl2
  clear hc hl hb hyb c1 hm0 hm1 hg hl2 b0
  go_enter Try.func3, Try.ntmps3
  go_wp2_with fail
  have hblk := heap_alloc_new W (Obj.cells #[Value.int .u16 a, Value.int .u8 y0, Value.int .u8 y1, Value.int .u8 y2, Value.int .u8 y3] 26)
  have hba : Below W.heap.size W (W.alloc (Obj.cells #[Value.int .u16 a, Value.int .u8 y0, Value.int .u8 y1, Value.int .u8 y2, Value.int .u8 y3] 26)) := (Below.refl W.heap.size W).alloc (Nat.le_refl _) _
  refine (cambiumlaw04_awake.calls true _ rfl).mono ?_
  rintro e w1 ⟨rfl, hbe⟩
  have HB1 := Lib.hid (below_step hba hbe)
  have HK1 := Lib.hid (block_below hblk hbe)
  have HW1 := Lib.hid (show W.heap.size < w1.heap.size by have := hbe.size; simp at this; omega)
  clear hblk hba hbe
  go_wp2_with fail
  refine (page_Frame.calls no A c l (pageOf no l) 0 w1 (Kd.C_below HC.out HB1.out) HCap.out (frame_good HBy.out HN0.out.1 (by have := HN0.out; omega) HL2.out)).mono ?_
  rintro e w2 ⟨v2, rfl, hr2, hb2⟩
  have hpl := page_len (no := no) HL2.out
  obtain ⟨A2, cap2, rfl⟩ := Kd.R_slice hr2
  obtain ⟨ad2, rfl, _⟩ := Kd.at_int (Kd.R_reads' hr2).2.2 0 (by omega) (by omega)
  obtain ⟨g, rfl⟩ := Kd.R_head hr2
  have hgb : w1.heap.size ≤ g := Kd.R_base hr2 g rfl
  rw [hpl] at hr2 ⊢
  have HR2 := Lib.hid hr2
  have HK2 := Lib.hid (block_below HK1.out hb2)
  have HB2 := Lib.hid (below_step HB1.out hb2)
  have HGW := Lib.hid (show W.heap.size ≠ g by have := HW1.out; omega)
  have HG2 := Lib.hid (show W.heap.size ≤ g by have := HW1.out; omega)
  have k0 : w2.cell? ⟨W.heap.size, 0, none⟩ = some (.int .u16 a) := (blk_cell HK2.out 0).trans rfl
  obtain ⟨yy, hyy⟩ : ∃ yy : List Int, yy = [y0, y1, y2, y3] := ⟨_, rfl⟩
  obtain ⟨P, hP⟩ : ∃ P : List Int, P = pageOf no l := ⟨_, rfl⟩
  have HP := Lib.hid hP
  rw [← hP] at hpl HR2
  have HPl := Lib.hid hpl
  clear hr2 hb2 hgb HB1 HK1 hpl hP HW1
  go_wp2
  clear hmm hi hw1 k0
  go_loopw [10] (fun v wr => ∃ k : Nat, k ≤ 4 ∧ v = .int .i64 k ∧ Hid (Kd.R (Kd.int .u8) 5 wr w1.heap.size (fun _ => True) (.slice (some ⟨g, 0, none⟩) 1024 cap2) (turned P yy i k)) ∧ Hid (wr.heap[W.heap.size]? = some (Obj.cells #[Value.int .u16 a, Value.int .u8 y0, Value.int .u8 y1, Value.int .u8 y2, Value.int .u8 y3] 26 (0, 0))) ∧ Hid (Below W.heap.size W wr)) (fun v _ => 4 - (intOf v).toNat)
  case atStart => exact ⟨0, by omega, rfl, HR2, HK2, HB2⟩
  case round =>
    clear HR2 HK2 HB2
    obtain ⟨k, hk, rfl, HR, HK, HB⟩ := hrel
    have hlen : (turned P yy i k).length = 1024 := by rw [turned_len]; exact HPl.out
    by_cases hlt : k < 4
    · have hR1 := HR.out
      rw [← hlen] at hR1
      have hcell := Kd.R_cell (0 : Int) hR1 ((i + k : Nat) : Int) (by omega) (by have := HI.out; omega)
      have hput := Kd.R_put hR1 ((i + k : Nat) : Int) (bx (rd (turned P yy i k) ((i + k : Nat) : Int)) (rd yy (k : Int)))
      rw [Int.toNat_natCast, hlen] at hput
      rw [Int.toNat_natCast] at hcell
      change (wr.cell? ⟨g, i + k, none⟩ = some (.int .u8 (rd (turned P yy i k) ((i + k : Nat) : Int))) ∧ _) at hcell
      change (_ ∧ _) at hput
      obtain ⟨h1, h2⟩ := hcell
      have h3 : wr.cell? ⟨W.heap.size, 1 + k, none⟩ = some (.int .u8 (rd yy (k : Int))) := by
        rw [blk_cell HK.out (1 + k), hyy]
        match k, hlt with
        | 0, _ => rfl
        | 1, _ => rfl
        | 2, _ => rfl
        | 3, _ => rfl
      rw [show (turned P yy i k).set (i + k) (bx (rd (turned P yy i k) ((i + k : Nat) : Int)) (rd yy (k : Int))) = turned P yy i (k + 1) from rfl] at hput
      generalize rd (turned P yy i k) ((i + k : Nat) : Int) = xv at h1 hput
      generalize rd yy (k : Int) = yv at h3 hput
      have HWl := Lib.hid (blk_lt HK.out)
      have hs1 : IntKind.i64.wrap ((i : Int) + (k : Int)) = ((i + k : Nat) : Int) := by rw [wrapEq]; have := HI.out; exact wrap_id (by omega) (by omega)
      have HPu := Lib.hid hput
      clear hput hR1 hyy
      have q1 : (k : Int) < 4 := by omega
      have q2 : ((i + k : Nat) : Int) < 1024 := by have := HI.out; omega
      clear hlen
      go_wp2
      go_region
      go_wp2
      go_roundw
      case rel =>
        refine ⟨k + 1, by omega, by go_num, Lib.hid ?_, Lib.hid ?_, Lib.hid ?_⟩
        · exact Kd.R_move HPu.out.1 (fun _ _ => rfl)
        · exact (HPu.out.2.block W.heap.size HWl.out (by intro h; injection h with h; exact HGW.out h)).trans HK.out
        · exact below_drew1 (HB.out.grown HPu.out.2 HB.out.size (by intro k' hk'; injection hk' with hk'; subst hk'; exact HG2.out))
      case measure => simp [intOf]; omega
    · have hk4 : k = 4 := by omega
      subst hk4
      have hn := HN0.out
      have hQ : turned P yy i 4 = turned (pageOf no l) [y0, y1, y2, y3] i 4 := by rw [HP.out, hyy]
      have hpb : IsB (turned P yy i 4) := by rw [hQ]; exact turned_isB (by rw [page_len HL2.out]; have := HI.out; omega) (page_isB HBy.out) HY.out
      have hto := turned_opens (no := no) HI.out HBy.out HL2.out hn.1 (by omega) HY.out
      rw [← hQ] at hto
      obtain ⟨bo, hbo⟩ : ∃ bo : Bool, bo = (y0 == 0 && (y1 == 0 && (y2 == 0 && y3 == 0))) := ⟨_, rfl⟩
      have hbo2 : bo = true ↔ opens no (turned P yy i 4) := by rw [hbo, hto]; simp
      generalize turned P yy i 4 = Q at HR hlen hpb hbo2
      have hCQ := (Kd.R_reads' (by have := HR.out; rw [← hlen] at this; exact this : Kd.R (Kd.int .u8) 5 wr w1.heap.size (fun _ => True) (.slice (some ⟨g, 0, none⟩) Q.length cap2) Q))
      have hopen : page_Open.f no Q = some (if bo then Q.take 1016 else [], if bo then 0 else 4) := by
        rw [open_eq hn.1 (by omega) hpb hlen]
        cases hb : bo with
        | true => rw [if_pos (hbo2.1 hb)]; rfl
        | false => rw [if_neg (fun h => by rw [hbo2.2 h] at hb; cases hb)]; rfl
      obtain ⟨O, hO⟩ : ∃ O : List Int, O = (if bo = true then Q.take 1016 else []) := ⟨_, rfl⟩
      obtain ⟨code, hcode⟩ : ∃ code : Int, code = (if bo = true then 0 else 4) := ⟨_, rfl⟩
      have hOl : O.length ≤ 1016 := by
        rw [hO]; split
        · rw [List.length_take]; omega
        · simp
      have hcz : (code == 0) = bo := by rw [hcode]; cases bo <;> rfl
      rw [← hO, ← hcode] at hopen
      have hrc : ∀ w', Below wr.heap.size wr w' → Calls Try.prog 9 #[.int .i64 no, .slice (some ⟨g, 0, none⟩) 1024 cap2] w' fun e w'' => ∃ v, e = .returned (.tuple #[v, .int .i64 code]) ∧ Kd.R (Kd.int .u8) 5 w'' w'.heap.size (fun _ => True) v O ∧ Below w'.heap.size w' w'' := by
        intro w' hw
        have h := ropen_calls no (some ⟨g, 0, none⟩) cap2 Q w' (Kd.C_below hCQ.2.2 hw) hCQ.2.1 hlen hpb hn.1 (by omega) bo hbo2
        rw [← hO, ← hcode] at h
        exact h
      have HRc := Lib.hid hrc
      have HOl := Lib.hid hOl
      have HCz := Lib.hid hcz
      clear hO hcode hOl hcz hrc
      have HOp := Lib.hid hopen
      have HCQ := Lib.hid hCQ
      have HLe := Lib.hid hlen
      have HPb := Lib.hid hpb
      have HBo := Lib.hid hbo2
      have heq := fun w => eq4 w y0 y1 y2 y3
      rw [← hbo] at heq
      have HEq := Lib.hid heq
      have hcall : ∀ w', Below wr.heap.size wr w' → Calls Try.prog 8 #[.int .i64 no, .slice (some ⟨g, 0, none⟩) 1024 cap2] w' fun e w'' => ∃ v0_ : Value, e = .returned (.tuple #[v0_, .int .i64 code]) ∧ Kd.R (Kd.int .u8) 5 w'' w'.heap.size (fun _ => True) v0_ O ∧ Below w'.heap.size w' w'' := by
        intro w' hw
        have h := page_Open.calls no (some ⟨g, 0, none⟩) cap2 Q _ _ w' (Kd.C_below HCQ.out.2.2 hw) HCQ.out.2.1 HOp.out
        rw [HLe.out] at h
        exact h
      have hcap : 1024 ≤ cap2 := by have := HCQ.out.2.1; rw [HLe.out] at this; exact this
      have HCall := Lib.hid hcall
      have HCap2 := Lib.hid hcap
      clear hcall hopen hCQ hpb hbo2 heq hbo hto hQ hyy hcap hlen
      go_wp2_with fail
      refine (HCall.out wr (Below.refl _ _)).mono ?_
      rintro e w3 ⟨v3, rfl, hr3, hb3⟩
      obtain ⟨A3, c3, rfl, hl3, hC3⟩ := Kd.R_reads hr3
      have HC3 := Lib.hid hC3
      have HL3 := Lib.hid hl3
      have HB3 := Lib.hid hb3
      clear hr3 hb3 hC3 hl3
      go_wp2_with fail
      refine (HRc.out w3 HB3.out).mono ?_
      rintro e w4 ⟨v4, rfl, hr4, hb4⟩
      obtain ⟨A4, c4, rfl, hl4, hC4⟩ := Kd.R_reads hr4
      have HC4 := Lib.hid hC4
      have HL4 := Lib.hid hl4
      have HK4 := Lib.hid (block_below (block_below HK.out HB3.out) hb4)
      have HB4 := Lib.hid (below_step (below_step HB.out HB3.out) hb4)
      have HC3' := Lib.hid (Kd.C_below HC3.out hb4)
      clear hr4 hb4 hC4 hl4 HC3
      go_wp2_with fail
      refine (cambiumref01_Same.calls 2000 A3 c3 O A4 c4 O true w4 HC3'.out HL3.out HC4.out HL4.out (by rw [same_eq 2000 _ _ (by have := HOl.out; omega) (by have := HOl.out; omega)]; simp)).mono ?_
      rintro e w5 ⟨rfl, hb5⟩
      have HK5 := Lib.hid (block_below HK4.out hb5.below)
      have HB5 := Lib.hid (below_step HB4.out hb5.below)
      clear hb5
      have m1 : w5.cell? ⟨W.heap.size, 1, none⟩ = some (.int .u8 y0) := (blk_cell HK5.out 1).trans rfl
      have m2 : w5.cell? ⟨W.heap.size, 2, none⟩ = some (.int .u8 y1) := (blk_cell HK5.out 2).trans rfl
      have m3 : w5.cell? ⟨W.heap.size, 3, none⟩ = some (.int .u8 y2) := (blk_cell HK5.out 3).trans rfl
      have m4 : w5.cell? ⟨W.heap.size, 4, none⟩ = some (.int .u8 y3) := (blk_cell HK5.out 4).trans rfl
      have heq := HEq.out
      have hcz := HCz.out
      go_wp2
      go_ret
      exact ⟨by simp, HB5.out⟩

end Go.Proofs.Ytmbhedlplmbfoaa.Walk
