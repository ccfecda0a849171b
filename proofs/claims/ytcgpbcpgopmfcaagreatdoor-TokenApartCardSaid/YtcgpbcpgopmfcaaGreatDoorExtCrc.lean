/- Contracts of the package crc, proved by hand: the table of four bits, the sum of bytes behind others, the sum. -/
import Derived.Test.YtcgpbcpgopmfcaaGreatDoorPAllx0
import Derived.Test.YtcgpbcpgopmfcaaGreatDoorCrcMath
import Derived.Test.YtcgpbcpgopmfcaaGreatDoorRd
import Derived.Lib.Zigzag
import Derived.Lib.Hide
import Derived.Laws.Tables
import Derived.WalkLawsBesides
namespace Go.Proofs.YtcgpbcpgopmfcaaGreatDoor.PAll
open Go.RowKit Go.Proofs.YtcgpbcpgopmfcaaGreatDoorW.PrintWords Go.Proofs.YtcgpbcpgopmfcaaGreatDoorW.PrintLast Go.Proofs.YtcgpbcpgopmfcaaGreatDoorW.PrintMore Go.Proofs.YtcgpbcpgopmfcaaGreatDoor.Math
set_option linter.unusedVariables false
set_option linter.unusedSimpArgs false

theorem xor_ones32 (b : Nat) (hb : b < 2 ^ 32) : (2 ^ 32 - 1) ^^^ b = 2 ^ 32 - 1 - b := by
  apply Nat.eq_of_testBit_eq
  intro i
  rw [Nat.testBit_xor, Nat.testBit_two_pow_sub_one, show 2 ^ 32 - 1 - b = 2 ^ 32 - (b + 1) by omega, Nat.testBit_two_pow_sub_succ hb]
  by_cases hi : i < 32
  · simp [hi]
  · have : b.testBit i = false := Nat.testBit_lt_two_pow (Nat.lt_of_lt_of_le hb (Nat.pow_le_pow_right (by decide) (by omega)))
    simp [hi, this]
theorem wpList_not_u32 {P : Program} {ops : Array Oper} {rest : List Oper} {o : Oper} {a : Act} {w : World} {Q : Exit → Act → World → Prop} (hgd : o.guard = none) (ty : TypeId) (x : Operand) (ho : o.op = .unOp .xor ty x)
    (s : Nat) (hs : s < 4294967296) (hx : a.eval x = .int .u32 (s : Int)) (h : wpList P ops Q rest (a.put o.dst (.int .u32 ((4294967295 - s : Nat) : Int))) w) : wpList P ops Q (o :: rest) a w :=
  wpList_plain hgd fun K hK => by
    have e : Op.unary .xor (.int .u32 (s : Int)) = pure (.int .u32 ((4294967295 - s : Nat) : Int)) := by
      have h1 : Go.bits .xor .u32 ((4294967295 : Nat) : Int) (s : Int) = ((4294967295 - s : Nat) : Int) := by
        rw [u32_xor_nat _ _ (by omega) hs]
        have := xor_ones32 s hs
        rw [show (4294967295 : Nat) = 2 ^ 32 - 1 from rfl, this]
      rw [← h1]
      rfl
    unfold Oper.wp execOp
    simp only [ho, hx, e, pure_bind]
    exact hK _ _ h

def crc_More.f (a0 : Int) (l1 : List Int) : Option Int := if 0 ≤ a0 ∧ a0 < 4294967296 ∧ IsB l1 then some (crcMore a0 l1) else none
def crc_Sum.f (l0 : List Int) : Option Int := if IsB l0 then some (crcSum l0) else none

/-- The table as far as it is made. -/
def tabTo (i : Nat) : List Value := (List.range 16).map fun j => Value.int .u32 (if j < i then ((Li 4 j : Nat) : Int) else 0)
theorem tabTo_zero : (tabTo 0).toArray = #[.int .u32 0, .int .u32 0, .int .u32 0, .int .u32 0, .int .u32 0, .int .u32 0, .int .u32 0, .int .u32 0, .int .u32 0, .int .u32 0, .int .u32 0, .int .u32 0, .int .u32 0, .int .u32 0, .int .u32 0, .int .u32 0] := rfl
theorem tabTo_len (i : Nat) : (tabTo i).length = 16 := by simp [tabTo]
theorem tabTo_set (i : Nat) (hi : i < 16) : (tabTo i).set i (.int .u32 ((Li 4 i : Nat) : Int)) = tabTo (i + 1) := by
  unfold tabTo
  apply List.ext_getElem?
  intro j
  rw [List.getElem?_set]
  by_cases h : i = j
  · subst h
    simp [hi]
  · simp only [h, if_false, List.getElem?_map]
    by_cases hj : j < 16
    · simp [List.getElem?_range hj, show j < i ↔ j < i + 1 by omega]
    · rw [List.getElem?_eq_none (by simp; omega)]; rfl

theorem tabTo_one (i : Nat) : (tabTo i).toArray.all (·.oneCell') = true := by
  rw [Array.all_eq_true_iff_forall_mem]
  intro v hv
  obtain ⟨j, _, rfl⟩ := List.mem_map.1 (show v ∈ tabTo i by simpa using hv)
  rfl

/-- A step of four bits' table, as the walk spells it. -/
theorem step_walk (c : Nat) (h : c < 4294967296) : Go.bits .xor .u32 ((c : Int) / 2) (2197175160 * Go.bits .and .u32 (c : Int) 1 % 4294967296) = ((L c : Nat) : Int) := by
  have e : Go.bits .and .u32 (c : Int) 1 = ((c % 2 : Nat) : Int) := by
    rw [show (1 : Int) = ((1 : Nat) : Int) from rfl, u32_and_nat c 1 h (by omega), nat_mask1]
  rw [e]
  unfold L
  by_cases hc : c % 2 = 1
  · rw [hc, if_pos rfl]
    have e2 : (2197175160 * ((1 : Nat) : Int) % 4294967296) = ((2197175160 : Nat) : Int) := by omega
    rw [e2, show (c : Int) / 2 = ((c / 2 : Nat) : Int) by omega, u32_xor_nat _ _ (by omega) (by omega)]
  · rw [show c % 2 = 0 by omega, if_neg (by omega)]
    have e2 : (2197175160 * ((0 : Nat) : Int) % 4294967296) = ((0 : Nat) : Int) := by omega
    rw [e2, show (c : Int) / 2 = ((c / 2 : Nat) : Int) by omega, u32_xor_nat _ _ (by omega) (by omega), Nat.xor_zero]

set_option maxHeartbeats 1000000 in
set_option maxRecDepth 100000 in
theorem crc_table.calls (w : World) :
    Calls Tryz.prog 34 #[] w fun e w' => e = .returned (.agg (tabTo 16).toArray) ∧ Below w.heap.size w w' := by
  go_enter Tryz.func34, Tryz.ntmps34
  go_wp2
  have hA : ((w.alloc (Obj.cells (tabTo 0).toArray 67)).alloc (Obj.cells (tabTo 0).toArray 67)).heap[w.heap.size]? = some (.cells (tabTo 0).toArray 67 (0, 0)) := blk_alloc (heap_alloc_new w _) _
  have hB : ((w.alloc (Obj.cells (tabTo 0).toArray 67)).alloc (Obj.cells (tabTo 0).toArray 67)).heap[w.heap.size + 1]? = some (.cells (tabTo 0).toArray 67 (0, 0)) := by
    have := heap_alloc_new (w.alloc (Obj.cells (tabTo 0).toArray 67)) (Obj.cells (tabTo 0).toArray 67)
    simpa using this
  have hbe : Below w.heap.size w ((w.alloc (Obj.cells (tabTo 0).toArray 67)).alloc (Obj.cells (tabTo 0).toArray 67)) := ((Below.refl _ _).alloc (Nat.le_refl _) _).alloc (by simp) _
  rw [← tabTo_zero]
  have HA := Lib.hid hA
  have HB := Lib.hid hB
  have HE := Lib.hid hbe
  clear hA hB hbe
  generalize ((w.alloc (Obj.cells (tabTo 0).toArray 67)).alloc (Obj.cells (tabTo 0).toArray 67)) = w1 at HA HB HE ⊢
  go_loopw [4] (fun i wr => ∃ k : Nat, k ≤ 16 ∧ i = .int .i64 k ∧ Hid (wr.heap[w.heap.size + 1]? = some (.cells (tabTo k).toArray 67 (0, 0))) ∧ Hid (wr.heap[w.heap.size]? = some (.cells (tabTo 0).toArray 67 (0, 0))) ∧ Hid (Below w.heap.size w wr)) (fun i _ => 16 - (intOf i).toNat)
  case atStart => exact ⟨0, by omega, rfl, HB, HA, HE⟩
  case round =>
    clear HA HB HE
    obtain ⟨k, hk, rfl, HB, HA, HE⟩ := hrel
    by_cases hlt : k < 16
    · obtain ⟨wo, hwo⟩ : ∃ wo : World, wo = wr := ⟨_, rfl⟩
      subst hwo
      go_wp2
      go_loopw [3, 9] (fun v i wr => ∃ j : Nat, j ≤ 4 ∧ i = .int .i64 j ∧ v = .int .u32 ((Li j k : Nat) : Int) ∧ wo = wr) (fun _ i _ => 4 - (intOf i).toNat)
      case atStart => exact ⟨0, by omega, rfl, rfl, rfl⟩
      case round =>
        obtain ⟨j, hj, rfl, rfl, rfl⟩ := hrel
        by_cases hjl : j < 4
        · have b := Li_lt (n := j) (c := k) (by omega)
          go_wp2
          go_roundw
          case rel => exact ⟨j + 1, by omega, by go_num, by rw [step_walk _ b, Li_succ], by first | rfl | trivial⟩
          case measure => simp [intOf]; omega
        · have hj4 : j = 4 := by omega
          subst hj4
          have hc : wo.cell? ⟨w.heap.size + 1, k, none⟩ = some (.int .u32 0) := by
            rw [blk_cell HB.out k]; simp [tabTo, List.getElem?_range hlt]
          have hf : wo.frozen? ⟨w.heap.size + 1, k, none⟩ = false := blk_frozen HB.out k
          go_wp2
          go_roundw
          case rel =>
            refine ⟨k + 1, by omega, by go_num, Lib.hid ?_, Lib.hid ?_, Lib.hid ?_⟩
            · have := blk_set HB.out k (.int .u32 ((Li 4 k : Nat) : Int))
              rw [List.setIfInBounds_toArray, tabTo_set k hlt] at this
              exact this
            · exact blk_far HA.out (by simp) _
            · exact HE.out.setCell (by simp) _
          case measure => simp [intOf]; omega
    · have hk16 : k = 16 := by omega
      subst hk16
      have hi : (Tryz.prog.info? 67).map (·.size) = some (tabTo 16).toArray.size := by kernel_rfl
      have h1 : (tabTo 16).toArray.all (·.oneCell') = true := tabTo_one 16
      go_wp2_with (first | ((with_reducible refine gate_dst (N := 22) rfl ?_); refine wpList_load_row rfl 67 (.tmp 1) rfl (w.heap.size + 1) rfl 67 (tabTo 16).toArray (0, 0) _ HB.out Tryz.underlying67 rfl hi ?_) | ((with_reducible refine gate_store (t := 67) (p := 0) rfl ?_); refine wpList_store_row rfl 67 (.tmp 0) (.tmp 22) rfl w.heap.size (tabTo 16).toArray rfl rfl 67 (tabTo 0).toArray HA.out hi rfl h1 ?_))
      have hs : (wr.setRow w.heap.size (tabTo 16).toArray).heap[w.heap.size]? = some (.cells (tabTo 16).toArray 67 (0, 0)) := setRow_heap wr w.heap.size _ _ 67 _ HA.out
      exact bodyPost_ret (v := .agg (tabTo 16).toArray) (results_cell_row rfl _ _ w.heap.size 67 _ (0, 0) _ rfl hs Tryz.underlying67 rfl hi) rfl ⟨rfl, HE.out.trans ⟨rfl, rfl, rfl, by simp [World.setRow], fun k hk => setRow_other wr _ k _ (by omega)⟩⟩

set_option maxHeartbeats 1000000 in
set_option maxRecDepth 100000 in
theorem crc_More.calls (a0 : Int) (A1 : Option Addr) (c1 : Nat) (l1 : List Int) (r : Int) (w : World) (hr1 : Kd.C (Kd.int .u8) w A1 l1.length l1) (hc1 : l1.length ≤ c1) (h : crc_More.f a0 l1 = some r) :
    Calls Tryz.prog 23 #[.int .u32 a0, .slice A1 l1.length c1] w fun e w' => e = .returned (.int .u32 r) ∧ Below w.heap.size w w' := by
  have hlen := Kd.C_max hr1
  unfold crc_More.f at h
  by_cases hp : 0 ≤ a0 ∧ a0 < 4294967296 ∧ IsB l1
  case neg => rw [if_neg hp] at h; cases h
  rw [if_pos hp] at h
  injection h with h
  obtain ⟨h0, h1, hb⟩ := hp
  obtain ⟨s, rfl⟩ := Int.eq_ofNat_of_zero_le h0
  have H := Lib.hid h
  have HBy := Lib.hid hb
  have HS := Lib.hid h1
  clear h hb h0 h1
  have hi : (Tryz.prog.info? 67).map (·.size) = some (tabTo 16).toArray.size := by kernel_rfl
  go_enter Tryz.func23, Tryz.ntmps23
  go_wp2_with fail
  refine (crc_table.calls _).mono ?_
  rintro e w1 ⟨rfl, hbe⟩
  obtain ⟨T, hT⟩ : ∃ T : Array Value, T = (tabTo 16).toArray := ⟨_, rfl⟩
  have ho : (#[Value.int .u32 0, Value.int .u32 0, Value.int .u32 0, Value.int .u32 0, Value.int .u32 0, Value.int .u32 0, Value.int .u32 0, Value.int .u32 0, Value.int .u32 0, Value.int .u32 0, Value.int .u32 0, Value.int .u32 0, Value.int .u32 0, Value.int .u32 0, Value.int .u32 0, Value.int .u32 0] : Array Value).size = (tabTo 16).toArray.size := by simp [tabTo_len]
  have h1 := tabTo_one 16
  have HE := Lib.hid hbe
  clear hbe
  rw [← hT] at hi ho h1 ⊢
  have HT := Lib.hid hT
  have HI := Lib.hid hi
  have HO := Lib.hid ho
  have H1 := Lib.hid h1
  clear hT hi ho h1
  have hnew : (w1.alloc (Obj.cells (#[Value.int .u32 0, Value.int .u32 0, Value.int .u32 0, Value.int .u32 0, Value.int .u32 0, Value.int .u32 0, Value.int .u32 0, Value.int .u32 0, Value.int .u32 0, Value.int .u32 0, Value.int .u32 0, Value.int .u32 0, Value.int .u32 0, Value.int .u32 0, Value.int .u32 0, Value.int .u32 0] : Array Value) 67)).heap[w1.heap.size]? = some (.cells (#[Value.int .u32 0, Value.int .u32 0, Value.int .u32 0, Value.int .u32 0, Value.int .u32 0, Value.int .u32 0, Value.int .u32 0, Value.int .u32 0, Value.int .u32 0, Value.int .u32 0, Value.int .u32 0, Value.int .u32 0, Value.int .u32 0, Value.int .u32 0, Value.int .u32 0, Value.int .u32 0] : Array Value) 67 (0, 0)) := heap_alloc_new w1 _
  have HS2 := Lib.hid (setRow_heap _ w1.heap.size _ T 67 _ hnew)
  have HB2 : Hid (Below w.heap.size w ((w1.alloc (Obj.cells (#[Value.int .u32 0, Value.int .u32 0, Value.int .u32 0, Value.int .u32 0, Value.int .u32 0, Value.int .u32 0, Value.int .u32 0, Value.int .u32 0, Value.int .u32 0, Value.int .u32 0, Value.int .u32 0, Value.int .u32 0, Value.int .u32 0, Value.int .u32 0, Value.int .u32 0, Value.int .u32 0] : Array Value) 67)).setRow w1.heap.size T)) := Lib.hid ((HE.out.alloc HE.out.size _).trans ⟨rfl, rfl, rfl, by simp [World.setRow], fun k hk => setRow_other _ _ k _ (by have := HE.out.size; omega)⟩)
  have HR2 : Hid (Kd.C (Kd.int .u8) ((w1.alloc (Obj.cells (#[Value.int .u32 0, Value.int .u32 0, Value.int .u32 0, Value.int .u32 0, Value.int .u32 0, Value.int .u32 0, Value.int .u32 0, Value.int .u32 0, Value.int .u32 0, Value.int .u32 0, Value.int .u32 0, Value.int .u32 0, Value.int .u32 0, Value.int .u32 0, Value.int .u32 0, Value.int .u32 0] : Array Value) 67)).setRow w1.heap.size T) A1 l1.length l1) := Lib.hid (Kd.C_below hr1 HB2.out)
  have HN := Lib.hid hnew
  clear hnew hr1
  go_wp2_with (first | ((with_reducible refine gate_store (t := 67) (p := 5) rfl ?_); refine wpList_store_row rfl 67 (.tmp 5) (.tmp 9) rfl w1.heap.size T rfl rfl 67 (#[Value.int .u32 0, Value.int .u32 0, Value.int .u32 0, Value.int .u32 0, Value.int .u32 0, Value.int .u32 0, Value.int .u32 0, Value.int .u32 0, Value.int .u32 0, Value.int .u32 0, Value.int .u32 0, Value.int .u32 0, Value.int .u32 0, Value.int .u32 0, Value.int .u32 0, Value.int .u32 0] : Array Value) HN.out HI.out HO.out H1.out ?_; generalize ((w1.alloc (Obj.cells (#[Value.int .u32 0, Value.int .u32 0, Value.int .u32 0, Value.int .u32 0, Value.int .u32 0, Value.int .u32 0, Value.int .u32 0, Value.int .u32 0, Value.int .u32 0, Value.int .u32 0, Value.int .u32 0, Value.int .u32 0, Value.int .u32 0, Value.int .u32 0, Value.int .u32 0, Value.int .u32 0] : Array Value) 67)).setRow w1.heap.size T) = w2 at HS2 HB2 HR2 ⊢) | ((with_reducible refine gate_dst (N := 11) rfl ?_); refine wpList_not_u32 rfl 40 (.tmp 10) rfl s (by have := HS.out; omega) rfl ?_))
  clear HE HN HO H1 HI
  go_loopw [6, 14] (fun v i wr => ∃ k : Nat, k ≤ l1.length ∧ i = .int .i64 k ∧ v = .int .u32 ((crcN (4294967295 - s) (nats (l1.take k)) : Nat) : Int) ∧ w2 = wr) (fun _ i _ => l1.length - (intOf i).toNat)
  case atStart => exact ⟨0, by omega, rfl, by simp [nats, crcN_nil], rfl⟩
  case round =>
    obtain ⟨k, hk, rfl, rfl, rfl⟩ := hrel
    by_cases hlt : k < l1.length
    · obtain ⟨ad, rfl, hx⟩ := Kd.at_int HR2.out (k : Int) (by omega) (by omega)
      rw [Int.toNat_natCast] at hx
      have hv := HBy.out _ (rd_mem hlt)
      obtain ⟨b, hbv⟩ := Int.eq_ofNat_of_zero_le hv.1
      have hbl : b < 256 := by omega
      rw [hbv] at hx
      have hc := crcN_lt (c := 4294967295 - s) (l := nats (l1.take k)) (by omega) (nats_lt (isB_take HBy.out k))
      have hnext : crcN (4294967295 - s) (nats (l1.take (k + 1))) = byteStep (crcN (4294967295 - s) (nats (l1.take k))) b := by
        rw [rd_take_succ hlt, nats_append, crcN_append, hbv]; rfl
      have HNx := Lib.hid hnext
      clear hnext hbv hv
      generalize crcN (4294967295 - s) (nats (l1.take k)) = c at hc HNx ⊢
      have e1 : Go.bits .xor .u32 (c : Int) (b : Int) = ((c ^^^ b : Nat) : Int) := u32_xor_nat c b hc (by omega)
      have hx1 : c ^^^ b < 4294967296 := Nat.xor_lt_two_pow (n := 32) hc (by omega)
      have HX : Hid (byteStep c b = Li 4 (Li 4 (c ^^^ b))) := by
        refine Lib.hid ?_
        unfold byteStep
        rw [← Li_add]
      have HE1 := Lib.hid e1
      clear e1
      generalize c ^^^ b = x at HE1 hx1 HX
      have nib : ∀ y : Nat, y < 4294967296 → Go.bits .and .u32 (y : Int) 15 = ((y % 16 : Nat) : Int) ∧ w2.cell? ⟨w1.heap.size, y % 16, none⟩ = some (.int .u32 ((Li 4 (y % 16) : Nat) : Int)) ∧ Go.bits .xor .u32 ((y : Int) / 16) ((Li 4 (y % 16) : Nat) : Int) = ((Li 4 y : Nat) : Int) := by
        intro y hy
        refine ⟨?_, ?_, ?_⟩
        · rw [show (15 : Int) = ((15 : Nat) : Int) from rfl, u32_and_nat y 15 hy (by omega), nat_mask4]
        · rw [blk_cell HS2.out, HT.out]
          simp [tabTo, List.getElem?_range (show y % 16 < 16 by omega), Nat.mod_lt]
        · have h4 := Li_lt (n := 4) (c := y % 16) (by omega)
          rw [show (y : Int) / 16 = ((y / 16 : Nat) : Int) by omega, u32_xor_nat _ _ (by omega) h4, Li_split 4 y]
      obtain ⟨n1, n2, n3⟩ := nib x hx1
      have hy := Li_lt (n := 4) hx1
      obtain ⟨n4, n5, n6⟩ := nib (Li 4 x) hy
      clear nib
      have q1 : ((x % 16 : Nat) : Int) < 16 := by omega
      have q2 : ((Li 4 x % 16 : Nat) : Int) < 16 := by omega
      generalize x % 16 = xm at n1 n2 n3 q1
      generalize Li 4 (Li 4 x) = z at n6 HX
      generalize Li 4 x = y at n3 n4 n5 n6 hy q2
      generalize y % 16 = ym at n4 n5 n6 q2
      have e1 := HE1.out
      go_wp2
      go_roundw
      case rel => exact ⟨k + 1, by omega, by go_num, by rw [HNx.out, HX.out], by first | rfl | trivial⟩
      case measure => simp [intOf]; omega
    · have hkl : k = l1.length := by omega
      subst hkl
      have hc := crcN_lt (c := 4294967295 - s) (l := nats l1) (by omega) (nats_lt HBy.out)
      rw [List.take_length]
      have hr : r = ((4294967295 - crcN (4294967295 - s) (nats l1) : Nat) : Int) := by
        rw [← H.out]; unfold crcMore; rw [Int.toNat_natCast]
      have HRr := Lib.hid hr
      clear hr
      generalize crcN (4294967295 - s) (nats l1) = c at hc HRr ⊢
      have HC := Lib.hid hc
      clear hc
      go_wp2_with ((with_reducible refine gate_dst (N := 38) rfl ?_); refine wpList_not_u32 rfl 40 (.tmp 37) rfl c HC.out rfl ?_)
      go_ret
      exact ⟨by rw [HRr.out]; rfl, HB2.out⟩

set_option maxHeartbeats 400000 in
theorem crc_Sum.calls (A0 : Option Addr) (c0 : Nat) (l0 : List Int) (r : Int) (w : World) (hr0 : Kd.C (Kd.int .u8) w A0 l0.length l0) (hc0 : l0.length ≤ c0) (h : crc_Sum.f l0 = some r) :
    Calls Tryz.prog 12 #[.slice A0 l0.length c0] w fun e w' => e = .returned (.int .u32 r) ∧ Below w.heap.size w w' := by
  unfold crc_Sum.f at h
  by_cases hb : IsB l0
  case neg => rw [if_neg hb] at h; cases h
  rw [if_pos hb] at h
  injection h with h
  have h2 : crc_More.f 0 l0 = some r := by
    unfold crc_More.f
    rw [if_pos ⟨by omega, by omega, hb⟩, ← h]; rfl
  have H2 := Lib.hid h2
  clear h h2
  go_enter Tryz.func12, Tryz.ntmps12
  go_wp2_with fail
  refine (crc_More.calls 0 _ _ _ r _ hr0 hc0 H2.out).mono ?_
  rintro e w1 ⟨rfl, hbe⟩
  go_wp2
  go_ret
  exact ⟨rfl, hbe⟩

end Go.Proofs.YtcgpbcpgopmfcaaGreatDoor.PAll
