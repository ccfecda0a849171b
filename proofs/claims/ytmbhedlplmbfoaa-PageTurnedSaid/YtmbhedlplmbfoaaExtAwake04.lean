/- page.Open, as printed under another key; what opens a page; the answer that the document fixes, by hand. -/
import Derived.Test.YtmbhedlplmbfoaaExtTorn
import Derived.Test.YtmbhedlplmbfoaaPMidx
import Derived.Lib.SlBytesConst
import Derived.BigQuiet
namespace Go.Proofs.Ytmbhedlplmbfoaa.PAll
open Go.RowKit Go.Proofs.YtmbhedlplmbfoaaW.PrintWords Go.Proofs.YtmbhedlplmbfoaaW.PrintLast Go.Proofs.YtmbhedlplmbfoaaW.PrintMore Go.Proofs.Ytmbhedlplmbfoaa.Math
set_option linter.unusedVariables false
set_option linter.unusedSimpArgs false

def page_Open.f (a0 : Int) (l1 : List Int) : Option (List Int × Int) := PMid.page_Open.f a0 l1
theorem page_Open.calls (a0 : Int) (A1 : Option Addr) (c1 : Nat) (l1 : List Int) (r1 : List Int) (r2 : Int) (w : World) (hr1 : Kd.C (Kd.int .u8) w A1 l1.length l1) (hc1 : l1.length ≤ c1) (h : page_Open.f a0 l1 = some (r1, r2)) :
    Calls Try.prog 8 #[.int .i64 a0, .slice A1 l1.length c1] w fun e w' => ∃ v0_ : Value, e = .returned (.tuple #[v0_, .int .i64 r2]) ∧ Kd.R (Kd.int .u8) 5 w' w.heap.size (fun _ => True) v0_ r1 ∧ Below w.heap.size w w' := PMid.page_Open.calls a0 A1 c1 l1 r1 r2 w hr1 hc1 h

/-- The bytes are those of page no. -/
def opens (no : Int) (l : List Int) : Prop := vbig (l.drop 1020) = crcSum (l.take 1020) ∧ vbig ((l.take 1020).drop 1016) = no
instance (no : Int) (l : List Int) : Decidable (opens no l) := inferInstanceAs (Decidable (_ ∧ _))

theorem pad4_4 {l : List Int} (hl : l.length = 4) : pad4 l = l := by
  unfold pad4; rw [List.take_append_of_le_length (by omega), List.take_of_length_le (by omega)]
theorem get4 {l : List Int} (hb : IsB l) (hl : l.length = 4) : num_Get32.f l = some (vbig l) := by
  unfold num_Get32.f; rw [if_pos (isB_take hb 4), pad4_4 hl]
theorem vbig4 {l : List Int} (hb : IsB l) (hl : l.length = 4) : 0 ≤ vbig l ∧ vbig l < 4294967296 := by
  have h0 := vbig_nonneg hb
  have h1 := vbig_lt hb
  rw [hl] at h1
  exact ⟨h0, by omega⟩
theorem vbig_be4 {v : Int} (h0 : 0 ≤ v) (h1 : v < 4294967296) : vbig (be4 v) = v := by
  simp only [vbig, be4, List.foldl_cons, List.foldl_nil]
  omega

theorem open_eq {no : Int} {l : List Int} (h0 : 0 ≤ no) (h1 : no ≤ 2147483647) (hb : IsB l) (hl : l.length = 1024) : page_Open.f no l = if opens no l then some (l.take 1016, 0) else some ([], 4) := by
  have l1 : (l.drop 1020).length = 4 := by rw [List.length_drop]; omega
  have l2 : ((l.take 1020).drop 1016).length = 4 := by rw [List.length_drop, List.length_take]; omega
  have b2 := vbig4 (isB_drop (isB_take hb 1020) 1016) l2
  have hw := wrap_id (x := vbig ((l.take 1020).drop 1016)) (by omega) (by omega)
  unfold page_Open.f PMid.page_Open.f
  rw [if_neg (by omega), if_neg (by omega), if_pos (by omega), if_pos (by omega), get4 (isB_drop hb 1020) l1, Option.bind_some]
  unfold crc_Sum.f
  rw [if_pos (isB_take hb 1020), Option.bind_some]
  by_cases c1 : vbig (l.drop 1020) = crcSum (l.take 1020)
  · rw [if_pos c1, if_pos (by omega), get4 (isB_drop (isB_take hb 1020) 1016) l2, Option.bind_some, hw]
    by_cases c2 : vbig ((l.take 1020).drop 1016) = no
    · rw [if_pos c2, if_pos (show opens no l from ⟨c1, c2⟩), if_pos (by omega)]
      unfold bytes_Clone.f
      rw [if_pos (by rw [List.length_take]; omega)]
      rfl
    · rw [if_neg c2, if_neg (fun h : opens no l => c2 h.2)]
  · rw [if_neg c1, if_neg (fun h : opens no l => c1 h.1)]

theorem open_bad {no : Int} {l : List Int} (h : no < 0 ∨ 2147483647 < no) : page_Open.f no l = some ([], 4) := by
  unfold page_Open.f PMid.page_Open.f
  by_cases c1 : no < 0
  · rw [if_pos c1]
  · rw [if_neg c1, if_pos (by omega)]

theorem page_cuts {no : Int} {l : List Int} (hl : l.length ≤ 1016) : (pageOf no l).drop 1020 = be4 (crcSum (body no l)) ∧ (pageOf no l).take 1020 = body no l ∧ (body no l).drop 1016 = be4 no := by
  have h1 := body_len (no := no) hl
  refine ⟨?_, ?_, ?_⟩
  · unfold pageOf; rw [List.drop_append, h1, List.drop_of_length_le (by omega)]; rfl
  · unfold pageOf; rw [List.take_append_of_le_length (by omega), List.take_of_length_le (by omega)]
  · unfold body
    have h2 : (l ++ List.replicate (1016 - l.length) (0 : Int)).length = 1016 := by simp; omega
    rw [List.drop_append, h2, List.drop_of_length_le (by omega)]; rfl

theorem page_opens {no other : Int} {l : List Int} (hl : l.length ≤ 1016) (hb : IsB l) (h0 : 0 ≤ no) (h1 : no < 4294967296) : opens other (pageOf no l) ↔ other = no := by
  obtain ⟨e1, e2, e3⟩ := page_cuts (no := no) hl
  have hs : 0 ≤ crcSum (body no l) ∧ crcSum (body no l) < 4294967296 := crcMore_bounds 0 _
  unfold opens
  rw [e1, e2, e3, vbig_be4 hs.1 hs.2, vbig_be4 h0 h1]
  exact ⟨fun h => h.2.symm, fun h => ⟨rfl, h.symm⟩⟩

def cambiumlaw04_awake.f : Option Bool := some true

set_option maxHeartbeats 2000000 in
set_option maxRecDepth 100000 in
theorem cambiumlaw04_awake.calls (r : Bool) (w : World) (h : cambiumlaw04_awake.f = some r) :
    Calls Try.prog 6 #[] w fun e w' => e = .returned (.bool r) ∧ Below w.heap.size w w' := by
  injection h with h
  subst h
  have kc := fun (w : World) (C : Array Value) (n c : Nat) => Lib.run_convert_bytes_const (P := Try.prog) w 23 5 C n c Try.underlying23 Try.underlying5
  obtain ⟨pg, hpg⟩ : ∃ pg : List Int, pg = pageOf 1 [120] := ⟨_, rfl⟩
  obtain ⟨x, hx⟩ : ∃ x : List Int, x = pg.take 1016 := ⟨_, rfl⟩
  have hxb : IsB [120] := by decide
  have hpb : IsB pg := by rw [hpg]; exact page_isB hxb
  have hpl : pg.length = 1024 := by rw [hpg]; exact page_len (by simp)
  have hxl : x.length = 1016 := by rw [hx, List.length_take]; omega
  have hx0 : rd x ((0 : Nat) : Int) = 120 := by
    rw [hx, hpg]
    simp [rd, pageOf, body, List.getD_eq_getElem?_getD]
  have f1 : page_Frame.f 1 [120] = some (pg, 0) := by unfold page_Frame.f; rw [if_neg (by simp), if_pos hxb, hpg]
  have f2 : page_Open.f 1 pg = some (x, 0) := by rw [open_eq (by omega) (by omega) hpb hpl, if_pos (by rw [hpg]; exact (page_opens (by simp) hxb (by omega) (by omega)).2 rfl), hx]
  have f3 : page_Open.f 2 pg = some ([], 4) := by
    rw [open_eq (by omega) (by omega) hpb hpl, if_neg]
    intro hn
    rw [hpg] at hn
    have := (page_opens (l := [120]) (by simp) hxb (by omega) (by omega)).1 hn
    omega
  have F1 := Lib.hid f1
  have F2 := Lib.hid f2
  have F3 := Lib.hid f3
  have HL := Lib.hid hpl
  have HXL := Lib.hid hxl
  have HX0 := Lib.hid hx0
  clear f1 f2 f3 hpl hxl hx0 hpb hxb hx hpg
  go_enter Try.func6, Try.ntmps6
  go_wp2_with fail
  have hblk : (w.alloc (Obj.cells #[Value.int .u8 120] 5 (1, 2))).heap[w.heap.size]? = some (.cells ([120].map (Value.int .u8)).toArray 5 (1, 2)) := heap_alloc_new w _
  refine (page_Frame.calls 1 _ 1 [120] pg 0 _ (C_block _ (by simp) hblk) (by simp) F1.out).mono ?_
  rintro e w1 ⟨v1, rfl, hv1, hb1⟩
  obtain ⟨A1, c1, rfl⟩ := Kd.R_slice hv1
  have HV1 := Lib.hid hv1
  have HB1 := Lib.hid (below_step ((Below.refl w.heap.size w).alloc (Nat.le_refl _) _) hb1)
  clear hv1 hb1 hblk
  go_wp2_with fail
  refine (page_Open.calls 1 A1 c1 pg x 0 _ (Kd.R_reads' HV1.out).2.2 (Kd.R_reads' HV1.out).2.1 F2.out).mono ?_
  rintro e w2 ⟨v2, rfl, hv2, hb2⟩
  obtain ⟨A2, c2, rfl⟩ := Kd.R_slice hv2
  have HV2 := Lib.hid hv2
  have HB2 := Lib.hid (below_step HB1.out hb2)
  have HC1 := Lib.hid (Kd.C_below (Kd.R_reads' HV1.out).2.2 hb2)
  have HCC := Lib.hid (Kd.R_reads' HV1.out).2.1
  clear hv2 hb2 HB1 HV1
  go_wp2_with fail
  refine (page_Open.calls 2 A1 c1 pg [] 4 _ HC1.out HCC.out F3.out).mono ?_
  rintro e w3 ⟨v3, rfl, hv3, hb3⟩
  obtain ⟨A3, c3, rfl⟩ := Kd.R_slice hv3
  have HB3 := Lib.hid (below_step HB2.out hb3)
  have hx3 := Kd.C_below (Kd.R_reads' HV2.out).2.2 hb3
  obtain ⟨ad, rfl, hcell⟩ := Kd.at_int hx3 ((0 : Nat) : Int) (by omega) (by have := HXL.out; omega)
  rw [HX0.out] at hcell
  have hcell2 : w3.cell? (ad.add 0) = some (.int .u8 120) := hcell
  have hcell3 : w3.cell? ad = some (.int .u8 120) := by have h0 : ad.add 0 = ad := by simp [Addr.add]
                                                        rw [← h0]; exact hcell
  have e1 := HL.out
  have e2 := HXL.out
  rw [e1, e2]
  clear hv3 hb3 hx3 hcell HB2 HV2 HC1 HCC
  go_wp2
  go_ret
  exact ⟨rfl, HB3.out⟩

end Go.Proofs.Ytmbhedlplmbfoaa.PAll
