/- Lower, by hand: small letters, in a row of bytes of the call's own. -/
import Derived.Test.YtphimckceegiiaaDoorTextRange
import Derived.Test.YtphimckceegiiaaDoorMarked
import Derived.Laws.IdiomCopy
namespace Go.Proofs.YtphimckceegiiaaDoor.Text
open Go.RowKit Go.Proofs.YtphimckceegiiaaDoorW.PrintWords Go.Proofs.YtphimckceegiiaaDoorW.PrintLast Go.Proofs.YtphimckceegiiaaDoorW.PrintMore Go.Proofs.YtphimckceegiiaaDoor.Math Go.Proofs.YtphimckceegiiaaDoor.Runes
set_option linter.unusedVariables false
set_option linter.unusedSimpArgs false

/-- A row in a block of the call's own, each cell of which may be written. -/
structure Row1 (w : World) (N : Nat) (xs : List Int) : Prop where
  cell : ∀ j, j < xs.length → w.cell? ⟨N, j, none⟩ = some (.int .u8 (rd xs (j : Int)))
  frz : ∀ j, j < xs.length → w.frozen? ⟨N, j, none⟩ = false
theorem Row1.put {w : World} {N k : Nat} {xs : List Int} (h : Row1 w N xs) (hk : k < xs.length) (v : Int) : Row1 (w.setCell ⟨N, k, none⟩ (.int .u8 v)) N (xs.set k v) := by
  refine ⟨fun j hj => ?_, fun j hj => ?_⟩
  · rw [List.length_set] at hj
    by_cases e : j = k
    · subst e
      rw [World.cell?_setCell_same _ _ _ (h.cell j hj)]
      simp [rd, hj]
    · rw [World.cell?_setCell_other _ _ _ _ (by intro h; injection h with _ h; exact e h.symm), h.cell j hj]
      simp [rd, List.getD_eq_getElem?_getD, List.getElem?_set_ne (Ne.symm e)]
  · rw [List.length_set] at hj
    rw [World.frozen?_setCell]
    exact h.frz j hj
theorem Row1.C {w : World} {N : Nat} {xs : List Int} (h : Row1 w N xs) (hl : xs.length ≤ 9223372036854775807) : Kd.C (Kd.int .u8) w (some ⟨N, 0, none⟩) xs.length xs := by
  refine Kd.C_of_reads (d := (0 : Int)) ⟨rfl, hl, fun _ => ⟨_, rfl, ?_⟩⟩
  intro j hj
  rw [add_plain, h.cell j hj]
  simp [rd, List.getD_eq_getElem?_getD]
theorem Row1.bytes (W : World) (e : TypeId) (s : ByteArray) : Row1 (Lib.bytesWorld W e s) W.heap.size (bytesOf s) := by
  have hl := bytesOf_length s
  have hnew := Lib.bytesWorld_at_new W e s
  have hs := grownCap_ge W s.size 0 e
  refine ⟨fun j hj => ?_, fun j hj => ?_⟩
  · rw [hl] at hj
    rw [Lib.bytesWorld_cell W e s j hj]
    have h' : j < s.data.toList.length := by rw [data_length]; exact hj
    simp [rd, bytesOf, List.getD_eq_getElem?_getD, List.getElem?_eq_getElem h']
  · rw [hl] at hj
    have hsz : s.size ≤ (Lib.bytesCells W e s).size := by
      simp only [Lib.bytesCells, Array.size_append, Array.size_map]
      have : s.data.size = s.size := rfl
      omega
    simp only [World.frozen?, hnew]
    simp
    omega

/-- A byte, small. -/
def lowI (c : Int) : Int := if 65 ≤ c ∧ c ≤ 90 then c + 32 else c
def lowTo (l : List Int) (k : Nat) : List Int := (l.take k).map lowI ++ l.drop k
theorem lowTo_len (l : List Int) (k : Nat) : (lowTo l k).length = l.length := by unfold lowTo; simp; omega
theorem lowTo_rd {l : List Int} {k : Nat} (h : k < l.length) : rd (lowTo l k) (k : Int) = rd l (k : Int) := by
  unfold lowTo
  have hl : ((l.take k).map lowI).length = k := by simp; omega
  simp only [rd, Int.toNat_natCast, List.getD_eq_getElem?_getD]
  rw [List.getElem?_append_right (by omega), hl, Nat.sub_self, List.getElem?_drop, Nat.add_zero]
theorem lowTo_step {l : List Int} {k : Nat} (h : k < l.length) : (lowTo l k).set k (lowI (rd l (k : Int))) = lowTo l (k + 1) := by
  unfold lowTo
  have hl : ((l.take k).map lowI).length = k := by simp; omega
  rw [rd_take_succ h, List.set_append_right _ _ (by omega), hl, Nat.sub_self, rd_drop h, List.set_cons_zero, List.map_append, List.append_assoc]
  rfl
theorem lowTo_same {l : List Int} {k : Nat} (h : k < l.length) (he : lowI (rd l (k : Int)) = rd l (k : Int)) : lowTo l (k + 1) = lowTo l k := by
  rw [← lowTo_step h, he]
  have hk : k < (lowTo l k).length := by rw [lowTo_len]; exact h
  have h2 : rd l (k : Int) = (lowTo l k)[k] := by
    rw [← lowTo_rd h]
    simp [rd, List.getD_eq_getElem?_getD, List.getElem?_eq_getElem hk]
  rw [h2, List.set_getElem_self]
theorem isB_bytesOf (s : ByteArray) : IsB (bytesOf s) := by
  intro x hx
  obtain ⟨b, _, rfl⟩ := List.mem_map.1 hx
  have := b.toNat_lt
  omega
def lowerB (s : ByteArray) : ByteArray := strOfNums ((bytesOf s).map lowI)

set_option maxHeartbeats 1000000 in
theorem lower_calls (s : ByteArray) (w : World) (hs : s.size ≤ 1000000) :
    Calls Tryd.prog 21 #[.string s] w fun e w' => e = .returned (.string (lowerB s)) ∧ Below w.heap.size w w' := by
  have kb := print_bytes (P := Tryd.prog) 9 50 5 Tryd.underlying9 Tryd.underlying50 Tryd.underlying5 s w
  have hR := Row1.bytes w 5 s
  have hB : Below w.heap.size w (Lib.bytesWorld w 5 s) := bytes_below (Below.refl _ _) (Nat.le_refl _) _ _
  have hl := bytesOf_length s
  have hby := isB_bytesOf s
  have hcap := grownCap_ge w s.size 0 5
  generalize grownCap w s.size 0 5 = cap at kb hcap
  generalize Lib.bytesWorld w 5 s = w1 at kb hR hB
  have HR := Lib.hid hR
  have HB := Lib.hid hB
  have HL := Lib.hid hl
  have HBy := Lib.hid hby
  have HCap := Lib.hid hcap
  clear hR hB hl hby hcap
  go_enter Tryd.func21, Tryd.ntmps21
  go_wp2
  clear kb
  go_loopw [10] (fun i wr => ∃ k : Nat, k ≤ s.size ∧ i = .int .i64 k ∧ Hid (Row1 wr w.heap.size (lowTo (bytesOf s) k)) ∧ Hid (Below w.heap.size w wr)) (fun i _ => s.size - (intOf i).toNat)
  case atStart => exact ⟨0, by omega, rfl, Lib.hid (by have := HR.out; simpa [lowTo] using this), HB⟩
  case round =>
    clear HR HB
    obtain ⟨k, hk, rfl, HR, HB⟩ := hrel
    by_cases hlt : k < s.size
    · have hkl : k < (bytesOf s).length := by rw [HL.out]; exact hlt
      have hc := HR.out.cell k (by rw [lowTo_len]; exact hkl)
      rw [lowTo_rd hkl] at hc
      have hf := HR.out.frz k (by rw [lowTo_len]; exact hkl)
      have q : (k : Int) < (s.size : Int) := by omega
      have hb := rd_isB HBy.out k
      have HSt := Lib.hid (lowTo_step hkl)
      have HSa := Lib.hid (lowTo_same hkl)
      generalize hx : rd (bytesOf s) (k : Int) = x at hc hb HSt HSa
      by_cases h1 : 65 ≤ x
      · by_cases h2 : x ≤ 90
        · have HQ := Lib.hid (show lowI x = x + 32 by unfold lowI; rw [if_pos ⟨h1, h2⟩])
          have d1 : decide (65 ≤ x) = true := decide_eq_true h1
          have d2 : decide (x ≤ 90) = true := decide_eq_true h2
          have HP := Lib.hid (HR.out.put (k := k) (by rw [lowTo_len]; exact hkl) (x + 32))
          have hs1 : IntKind.u8.wrap (x + 97) = x + 97 := by rw [IntKind.wrap_u8]; omega
          have hs2 : IntKind.u8.wrap (x + 97 - 65) = x + 32 := by rw [IntKind.wrap_u8]; omega
          have hsum : x + 97 - 65 = x + 32 := by omega
          clear hkl hx
          go_wp2
          go_roundw
          case rel => exact ⟨k + 1, by omega, by go_num, Lib.hid (by have := HP.out; rw [← HQ.out, HSt.out] at this; rw [HQ.out] at this; exact this), Lib.hid (HB.out.setCell (Nat.le_refl _) _)⟩
          case measure => simp [intOf]; omega
        · have HQ := Lib.hid (HSa.out (by unfold lowI; rw [if_neg (by omega)]))
          have d1 : decide (65 ≤ x) = true := decide_eq_true h1
          have d2 : decide (x ≤ 90) = false := decide_eq_false h2
          clear hkl hx
          go_wp2
          go_roundw
          case rel => exact ⟨k + 1, by omega, by go_num, Lib.hid (by rw [HQ.out]; exact HR.out), HB⟩
          case measure => simp [intOf]; omega
      · have HQ := Lib.hid (HSa.out (by unfold lowI; rw [if_neg (by omega)]))
        have d1 : decide (65 ≤ x) = false := decide_eq_false h1
        clear hkl hx
        go_wp2
        go_roundw
        case rel => exact ⟨k + 1, by omega, by go_num, Lib.hid (by rw [HQ.out]; exact HR.out), HB⟩
        case measure => simp [intOf]; omega
    · have hk2 : k = s.size := by omega
      subst hk2
      have hC := HR.out.C (by rw [lowTo_len, HL.out]; omega)
      have he : lowTo (bytesOf s) s.size = (bytesOf s).map lowI := by
        unfold lowTo
        rw [List.take_of_length_le (by rw [HL.out]; omega), List.drop_of_length_le (by rw [HL.out]; omega), List.append_nil]
      rw [he] at hC
      have hlen : ((bytesOf s).map lowI).length = s.size := by rw [List.length_map, HL.out]
      have hcv := Kd.C_string (P := Tryd.prog) (c := cap) Tryd.underlying50 Tryd.underlying5 Tryd.underlying9 hC
      rw [hlen] at hcv
      have HB2 := HB
      clear hC he hlen
      go_wp2
      go_ret
      exact ⟨rfl, HB2.out⟩

end Go.Proofs.YtphimckceegiiaaDoor.Text
