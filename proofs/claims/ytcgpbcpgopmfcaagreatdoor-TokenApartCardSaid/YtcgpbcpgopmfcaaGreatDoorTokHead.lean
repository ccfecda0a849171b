/- token.head (chapter 24), by hand: what a place's token begins with. -/
import Derived.Test.YtcgpbcpgopmfcaaGreatDoorTokExpr
import Derived.Test.YtcgpbcpgopmfcaaGreatDoorTokGen
import Derived.Test.YtcgpbcpgopmfcaaGreatDoorTokNum
import Derived.Test.YtcgpbcpgopmfcaaGreatDoorExtCrc
namespace Go.Proofs.YtcgpbcpgopmfcaaGreatDoor.Tok
open Go.RowKit Go.Proofs.YtcgpbcpgopmfcaaGreatDoorW.PrintWords Go.Proofs.YtcgpbcpgopmfcaaGreatDoorW.PrintLast Go.Proofs.YtcgpbcpgopmfcaaGreatDoorW.PrintMore Go.Proofs.YtcgpbcpgopmfcaaGreatDoor.Math Go.Proofs.YtcgpbcpgopmfcaaGreatDoor.PAll Go.Proofs.YtcgpbcpgopmfcaaGreatDoor.NumFacts Go.Proofs.YtcgpbcpgopmfcaaGreatDoor.Hex
set_option linter.unusedVariables false
set_option linter.unusedSimpArgs false

theorem C_cells {k : IntKind} {W N : World} {A : Option Addr} {n : Nat} {xs : List Int} (h : Kd.C (Kd.int k) W A n xs) (hs : ∀ a v, W.cell? a = some v → N.cell? a = some v) : Kd.C (Kd.int k) N A n xs := by
  obtain ⟨h1, h2, h3⟩ := Kd.reads_of_C (enc := Value.int k) (d := (0 : Int)) (h1 := fun _ => rfl) h
  refine Kd.C_of_reads (d := (0 : Int)) ⟨h1, h2, fun hp => ?_⟩
  obtain ⟨ad, ha, hc⟩ := h3 hp
  exact ⟨ad, ha, fun i hi => hs _ _ (hc i hi)⟩
/-- A row of bytes that reads. -/
def RdB (w : World) (v : Value) (xs : List Int) : Prop := ∃ A c, v = .slice A xs.length c ∧ xs.length ≤ c ∧ Kd.C (Kd.int .u8) w A xs.length xs
theorem RdB.cells {w w1 : World} {v : Value} {xs : List Int} (h : RdB w v xs) (hb : ∀ a v, w.cell? a = some v → w1.cell? a = some v) : RdB w1 v xs := by
  obtain ⟨A, c, h1, h2, h3⟩ := h
  exact ⟨A, c, h1, h2, C_cells h3 hb⟩
theorem RdB.below {w w1 : World} {v : Value} {xs : List Int} (h : RdB w v xs) (hb : Below w.heap.size w w1) : RdB w1 v xs := by
  obtain ⟨A, c, h1, h2, h3⟩ := h
  exact ⟨A, c, h1, h2, Kd.C_below h3 hb⟩
theorem RdB.of_R {t : TypeId} {w : World} {b : Nat} {ok : Nat → Prop} {v : Value} {xs : List Int} (h : Kd.R (Kd.int .u8) t w b ok v xs) : RdB w v xs := by
  obtain ⟨A, c, rfl⟩ := Kd.R_slice h
  exact ⟨A, c, rfl, (Kd.R_reads' h).2.1, (Kd.R_reads' h).2.2⟩
theorem RdB.of_V {t : TypeId} {w : World} {b : Nat} {ok : Nat → Prop} {v : Value} {xs : List Int} (h : Kd.V (Kd.int .u8) t w b ok v xs) : RdB w v xs := by
  obtain ⟨A, c, rfl, hc, _⟩ := id h
  exact ⟨A, c, rfl, hc, (Kd.V_reads' h).2.2⟩
theorem RdB.of_Q {t : TypeId} {w : World} {b : Nat} {ok : Nat → Prop} {v : Value} {xs : List Int} (h : Kd.Q (Kd.int .u8) t w b ok v xs) : RdB w v xs := RdB.of_V (b := b) (Kd.Q_V h)
theorem RdB.block {w : World} {g : Nat} {t : TypeId} {fr : Nat × Nat} (xs : List Int) (hn : xs.length ≤ 9223372036854775807) (h : w.heap[g]? = some (.cells (xs.map (Value.int .u8)).toArray t fr)) : RdB w (.slice (some ⟨g, 0, none⟩) xs.length xs.length) xs :=
  ⟨_, _, rfl, Nat.le_refl _, C_block xs hn h⟩

/-- What a step leaves: the cells that are there, with what they hold; blocks stay blocks, but for their marks. -/
structure Stp (w W N : World) : Prop where
  cell : ∀ a v, W.cell? a = some v → N.cell? a = some v
  bw : Below w.heap.size w W → Below w.heap.size w N
  blk : ∀ (g : Nat) C e fr, W.heap[g]? = some (Obj.cells C e fr) → ∃ fr', N.heap[g]? = some (Obj.cells C e fr')
theorem Stp.of_below {w W N : World} (h : Below W.heap.size W N) : Stp w W N :=
  ⟨fun a v ha => pw_cell_below h ha, fun hb => below_step hb h, fun g C e fr hg => ⟨fr, block_below hg h⟩⟩
/-- The mark that a conversion to its own type leaves. -/
theorem mark_run {P : Program} (W : World) (t e : TypeId) (C : Array Value) (fr : Nat × Nat) (g n c : Nat) (hg : W.heap[g]? = some (.cells C e fr)) (ht : P.underlying t = some (.slice e)) (he : P.underlying e = some (.int .u8)) :
    (convert t t (.slice (some ⟨g, 0, none⟩) n c)).run P W = .ok (.slice (some ⟨g, 0, none⟩) n c) (W.freeze ⟨g, C.size, none⟩ 1) := by
  have hsh : W.shape? g = some (e, C.size) := by
    unfold World.shape?
    rw [hg]
  simp [convert, run_underlying ht, run_underlying he, markStringish, hsh]
theorem freeze_at (W : World) (g k j : Nat) : (W.freeze ⟨g, k, none⟩ 1).heap[j]? = if g = j then (W.heap[j]?).map (fun
      | .cells c elem (lo, hi) => .cells c elem (if lo == hi then (k, k + 1) else (min lo k, max hi (k + 1)))
      | o => o) else W.heap[j]? := by
  unfold World.freeze
  rw [if_neg (by decide)]
  simp only [Array.getElem?_modify]
  split
  · cases W.heap[j]? with
    | none => rfl
    | some o => cases o <;> rfl
  · rfl
theorem mark_stp {w W : World} {g k : Nat} (hw : w.heap.size ≤ g) : Stp w W (W.freeze ⟨g, k, none⟩ 1) := by
  refine ⟨fun a v ha => ?_, fun h => ?_, fun j C e fr hj => ?_⟩
  · unfold World.cell? at ha ⊢
    rw [freeze_at]
    by_cases e : g = a.block
    · rw [if_pos e]
      cases ho : W.heap[a.block]? with
      | none => rw [ho] at ha; exact ha
      | some o =>
        rw [ho] at ha
        cases o with
        | cells c el fr => exact ha
        | _ => exact ha
    · rw [if_neg e]
      exact ha
  · refine ⟨h.os, h.tape, h.output, ?_, fun j hj => ?_⟩
    · have := h.size
      unfold World.freeze
      rw [if_neg (by decide)]
      simpa using this
    · rw [← h.block j hj, freeze_at, if_neg (by omega)]
  · rw [freeze_at, hj]
    by_cases e : g = j
    · rw [if_pos e]
      exact ⟨_, rfl⟩
    · rw [if_neg e]
      exact ⟨_, rfl⟩

/-- The sum of the query's text, as bytes. -/
def sumQ (o : Int) : List Int := p32 (crcSum (bytesOf (textQ o)))
theorem sumQ_isB (o : Int) : IsB (sumQ o) := p32_isB _
theorem sumQ_len (o : Int) : (sumQ o).length = 4 := rfl
theorem isB_str (s : ByteArray) : IsB (bytesOf s) := by
  intro x hx
  obtain ⟨b, _, rfl⟩ := List.mem_map.1 hx
  have := b.toNat_lt
  omega
theorem textQ_size (o : Int) : (textQ o).size ≤ 7 := by unfold textQ; split <;> decide

/-- The world with the query's box. -/
structure BaseQ (w : World) (o : Int) (w' : World) : Prop where
  bw : Below w.heap.size w w'
  c0 : w'.cell? ⟨w.heap.size, 0, none⟩ = some (.slice none 0 0)
  c1 : w'.cell? ⟨w.heap.size, 1, none⟩ = some (.int .i64 o)
theorem BaseQ.next {w : World} {o : Int} {w' w2 : World} (h : BaseQ w o w') (hb : Stp w w' w2) : BaseQ w o w2 := ⟨hb.bw h.bw, hb.cell _ _ h.c0, hb.cell _ _ h.c1⟩

set_option maxHeartbeats 8000000 in
set_option maxRecDepth 100000 in
theorem head_calls (ver o : Int) (w : World) (h0 : 0 ≤ ver) (h1 : ver < 18446744073709551616) (ho : o = 0 ∨ o = 1) :
    Calls Tryz.prog 9 #[.int .u64 ver, .agg #[.slice none 0 0, .int .i64 o]] w fun e w' => ∃ v, e = .returned v ∧ Kd.R (Kd.int .u8) 5 w' w.heap.size (fun _ => True) v ([99, 116] ++ (vput ver ++ sumQ o)) ∧ Below w.heap.size w w' := by
  have HV := Lib.hid (put_eq 11 ver h0 h1 (by omega))
  have HO := Lib.hid ho
  have HVL := Lib.hid (vput_len10 h1)
  have hcs := crcSum_bounds (bytesOf (textQ o))
  have HP := Lib.hid (show num_Put32.f 9 (crcSum (bytesOf (textQ o))) = some (sumQ o) from put32_eq 9 _ hcs.1 hcs.2 (by omega))
  have HC := Lib.hid (show crc_Sum.f (bytesOf (textQ o)) = some (crcSum (bytesOf (textQ o))) by unfold crc_Sum.f; rw [if_pos (isB_str _)])
  have HTS := Lib.hid (textQ_size o)
  clear h0 h1 ho hcs
  obtain ⟨cs, hcs⟩ : ∃ cs, crcSum (bytesOf (textQ o)) = cs := ⟨_, rfl⟩
  rw [hcs] at HP HC
  clear hcs
  go_enter Tryz.func9, Tryz.ntmps9
  go_wp2
  have kb := blk_drew (heap_alloc_new w (.cells #[.slice none 0 0, .int .i64 o] 28))
  have hbd := (below_alloc (Below.refl w.heap.size w) (.cells #[.slice none 0 0, .int .i64 o] 28)).drew
  refine start_ (n := 12) (S := fun w' => w'.cell? ⟨w.heap.size, 0, none⟩ = some (.slice none 0 0) ∧ w'.cell? ⟨w.heap.size, 1, none⟩ = some (.int .i64 o)) (ds := []) #[false, false, false, false, false, false, false, false, false, false, false, false] (by kernel_rfl) rfl rfl ⟨(blk_cell kb 0).trans rfl, (blk_cell kb 1).trans rfl⟩ (fun hHeld => ?_)
  generalize (w.alloc (.cells #[.slice none 0 0, .int .i64 o] 28)).drew = WN0 at kb hbd hHeld ⊢
  have HB := Lib.hid (show BaseQ w o WN0 from ⟨hbd, (blk_cell kb 0).trans rfl, (blk_cell kb 1).trans rfl⟩)
  clear kb hbd
  refine pure_ (i := 2) (N := some 7) (v := ?_) (a' := ?_) #[false, false, true, false, false, false, false, false, false, false, false, false] rfl rfl (by kernel_rfl) (fun _ _ _ h => h) (Or.inl ⟨by rfl, ?_⟩) ?_ ?_
  rotate_left
  · intro w'
    go_simp
    with_reducible rfl
  rotate_left
  · simp only [Act.put, List.setIfInBounds_toArray, List.set_cons_zero, List.set_cons_succ, i64_w, i32_w]
    rfl
  refine take_ (i := 4) (N := some 9) (v := ?_) (a' := ?_) #[false, false, true, false, true, false, false, false, false, false, false, false] rfl rfl (by kernel_rfl) (fun _ _ _ h => h) (Or.inl ⟨by rfl, ?_⟩) hHeld ?_ ?_
  rotate_left
  · rintro w' ⟨s0, s1⟩
    go_simp
    with_reducible rfl
  rotate_left
  · simp only [Act.put, List.setIfInBounds_toArray, List.set_cons_zero, List.set_cons_succ, i64_w, i32_w]
    rfl
  refine join_ (σ := (Nat) × (Nat) × (Value) × (Unit) × (Option Addr × Nat) × (Unit) × (Value)) 3 #[true, true, true, true, true, true, true, true, true, false, false, false] (fun s => [(5, .slice (some ⟨(s.1), 0, none⟩) 2 2), (6, .slice (some ⟨(s.2.1), 0, none⟩) 2 2), (8, (s.2.2.1)), (10, .string (textQ o)), (11, .slice (s.2.2.2.2.1).1 (bytesOf (textQ o)).length (s.2.2.2.2.1).2), (12, .int .u32 cs), (13, (s.2.2.2.2.2.2))]) (fun s w' => (w.heap.size ≤ (s.1) ∧ ∃ fr, w'.heap[(s.1)]? = some (.cells #[.int .u8 99, .int .u8 116] 5 fr)) ∧ (RdB w' (.slice (some ⟨(s.2.1), 0, none⟩) 2 2) [99, 116]) ∧ (RdB w' (s.2.2.1) (vput ver)) ∧ (True) ∧ ((bytesOf (textQ o)).length ≤ (s.2.2.2.2.1).2 ∧ Kd.C (Kd.int .u8) w' (s.2.2.2.2.1).1 (bytesOf (textQ o)).length (bytesOf (textQ o))) ∧ (True) ∧ (RdB w' (s.2.2.2.2.2.2) (sumQ o)) ∧ (BaseQ w o w')) ?_ ?_
  rotate_left
  · intro hJ0_1_3_5_6_7_8
    refine join_ (σ := (Nat) × (Nat) × (Value) × (Unit) × (Option Addr × Nat) × (Unit)) 4 #[true, true, true, true, true, true, true, true, false, false, false, false] (fun s => [(5, .slice (some ⟨(s.1), 0, none⟩) 2 2), (6, .slice (some ⟨(s.2.1), 0, none⟩) 2 2), (8, (s.2.2.1)), (10, .string (textQ o)), (11, .slice (s.2.2.2.2.1).1 (bytesOf (textQ o)).length (s.2.2.2.2.1).2), (12, .int .u32 cs)]) (fun s w' => (w.heap.size ≤ (s.1) ∧ ∃ fr, w'.heap[(s.1)]? = some (.cells #[.int .u8 99, .int .u8 116] 5 fr)) ∧ (RdB w' (.slice (some ⟨(s.2.1), 0, none⟩) 2 2) [99, 116]) ∧ (RdB w' (s.2.2.1) (vput ver)) ∧ (True) ∧ ((bytesOf (textQ o)).length ≤ (s.2.2.2.2.1).2 ∧ Kd.C (Kd.int .u8) w' (s.2.2.2.2.1).1 (bytesOf (textQ o)).length (bytesOf (textQ o))) ∧ (True) ∧ (BaseQ w o w')) ?_ ?_
    rotate_left
    · intro hJ0_1_3_5_6_7
      refine join_ (σ := (Nat) × (Value) × (Unit) × (Option Addr × Nat) × (Unit) × (Value)) 4 #[true, false, true, true, true, true, true, true, true, false, false, false] (fun s => [(5, .slice (some ⟨(s.1), 0, none⟩) 2 2), (8, (s.2.1)), (10, .string (textQ o)), (11, .slice (s.2.2.2.1).1 (bytesOf (textQ o)).length (s.2.2.2.1).2), (12, .int .u32 cs), (13, (s.2.2.2.2.2))]) (fun s w' => (w.heap.size ≤ (s.1) ∧ ∃ fr, w'.heap[(s.1)]? = some (.cells #[.int .u8 99, .int .u8 116] 5 fr)) ∧ (RdB w' (s.2.1) (vput ver)) ∧ (True) ∧ ((bytesOf (textQ o)).length ≤ (s.2.2.2.1).2 ∧ Kd.C (Kd.int .u8) w' (s.2.2.2.1).1 (bytesOf (textQ o)).length (bytesOf (textQ o))) ∧ (True) ∧ (RdB w' (s.2.2.2.2.2) (sumQ o)) ∧ (BaseQ w o w')) ?_ ?_
      rotate_left
      · intro hJ0_3_5_6_7_8
        refine join_ (σ := (Nat) × (Nat) × (Value) × (Unit) × (Option Addr × Nat)) 5 #[true, true, true, true, true, true, true, false, false, false, false, false] (fun s => [(5, .slice (some ⟨(s.1), 0, none⟩) 2 2), (6, .slice (some ⟨(s.2.1), 0, none⟩) 2 2), (8, (s.2.2.1)), (10, .string (textQ o)), (11, .slice (s.2.2.2.2).1 (bytesOf (textQ o)).length (s.2.2.2.2).2)]) (fun s w' => (w.heap.size ≤ (s.1) ∧ ∃ fr, w'.heap[(s.1)]? = some (.cells #[.int .u8 99, .int .u8 116] 5 fr)) ∧ (RdB w' (.slice (some ⟨(s.2.1), 0, none⟩) 2 2) [99, 116]) ∧ (RdB w' (s.2.2.1) (vput ver)) ∧ (True) ∧ ((bytesOf (textQ o)).length ≤ (s.2.2.2.2).2 ∧ Kd.C (Kd.int .u8) w' (s.2.2.2.2).1 (bytesOf (textQ o)).length (bytesOf (textQ o))) ∧ (BaseQ w o w')) ?_ ?_
        rotate_left
        · intro hJ0_1_3_5_6
          refine join_ (σ := (Nat) × (Value) × (Unit) × (Option Addr × Nat) × (Unit)) 5 #[true, false, true, true, true, true, true, true, false, false, false, false] (fun s => [(5, .slice (some ⟨(s.1), 0, none⟩) 2 2), (8, (s.2.1)), (10, .string (textQ o)), (11, .slice (s.2.2.2.1).1 (bytesOf (textQ o)).length (s.2.2.2.1).2), (12, .int .u32 cs)]) (fun s w' => (w.heap.size ≤ (s.1) ∧ ∃ fr, w'.heap[(s.1)]? = some (.cells #[.int .u8 99, .int .u8 116] 5 fr)) ∧ (RdB w' (s.2.1) (vput ver)) ∧ (True) ∧ ((bytesOf (textQ o)).length ≤ (s.2.2.2.1).2 ∧ Kd.C (Kd.int .u8) w' (s.2.2.2.1).1 (bytesOf (textQ o)).length (bytesOf (textQ o))) ∧ (True) ∧ (BaseQ w o w')) ?_ ?_
          rotate_left
          · intro hJ0_3_5_6_7
            refine join_ (σ := (Value) × (Unit) × (Option Addr × Nat) × (Unit) × (Value)) 5 #[false, false, true, true, true, true, true, true, true, false, false, false] (fun s => [(8, (s.1)), (10, .string (textQ o)), (11, .slice (s.2.2.1).1 (bytesOf (textQ o)).length (s.2.2.1).2), (12, .int .u32 cs), (13, (s.2.2.2.2))]) (fun s w' => (RdB w' (s.1) (vput ver)) ∧ (True) ∧ ((bytesOf (textQ o)).length ≤ (s.2.2.1).2 ∧ Kd.C (Kd.int .u8) w' (s.2.2.1).1 (bytesOf (textQ o)).length (bytesOf (textQ o))) ∧ (True) ∧ (RdB w' (s.2.2.2.2) (sumQ o)) ∧ (BaseQ w o w')) ?_ ?_
            rotate_left
            · intro hJ3_5_6_7_8
              refine join_ (σ := (Nat) × (Nat) × (Value) × (Unit)) 6 #[true, true, true, true, true, true, false, false, false, false, false, false] (fun s => [(5, .slice (some ⟨(s.1), 0, none⟩) 2 2), (6, .slice (some ⟨(s.2.1), 0, none⟩) 2 2), (8, (s.2.2.1)), (10, .string (textQ o))]) (fun s w' => (w.heap.size ≤ (s.1) ∧ ∃ fr, w'.heap[(s.1)]? = some (.cells #[.int .u8 99, .int .u8 116] 5 fr)) ∧ (RdB w' (.slice (some ⟨(s.2.1), 0, none⟩) 2 2) [99, 116]) ∧ (RdB w' (s.2.2.1) (vput ver)) ∧ (True) ∧ (BaseQ w o w')) ?_ ?_
              rotate_left
              · intro hJ0_1_3_5
                refine join_ (σ := (Nat) × (Value) × (Unit) × (Option Addr × Nat)) 6 #[true, false, true, true, true, true, true, false, false, false, false, false] (fun s => [(5, .slice (some ⟨(s.1), 0, none⟩) 2 2), (8, (s.2.1)), (10, .string (textQ o)), (11, .slice (s.2.2.2).1 (bytesOf (textQ o)).length (s.2.2.2).2)]) (fun s w' => (w.heap.size ≤ (s.1) ∧ ∃ fr, w'.heap[(s.1)]? = some (.cells #[.int .u8 99, .int .u8 116] 5 fr)) ∧ (RdB w' (s.2.1) (vput ver)) ∧ (True) ∧ ((bytesOf (textQ o)).length ≤ (s.2.2.2).2 ∧ Kd.C (Kd.int .u8) w' (s.2.2.2).1 (bytesOf (textQ o)).length (bytesOf (textQ o))) ∧ (BaseQ w o w')) ?_ ?_
                rotate_left
                · intro hJ0_3_5_6
                  refine join_ (σ := (Value) × (Unit) × (Option Addr × Nat) × (Unit)) 6 #[false, false, true, true, true, true, true, true, false, false, false, false] (fun s => [(8, (s.1)), (10, .string (textQ o)), (11, .slice (s.2.2.1).1 (bytesOf (textQ o)).length (s.2.2.1).2), (12, .int .u32 cs)]) (fun s w' => (RdB w' (s.1) (vput ver)) ∧ (True) ∧ ((bytesOf (textQ o)).length ≤ (s.2.2.1).2 ∧ Kd.C (Kd.int .u8) w' (s.2.2.1).1 (bytesOf (textQ o)).length (bytesOf (textQ o))) ∧ (True) ∧ (BaseQ w o w')) ?_ ?_
                  rotate_left
                  · intro hJ3_5_6_7
                    refine join_ (σ := (Nat) × (Nat) × (Value)) 7 #[true, true, true, true, true, false, false, false, false, false, false, false] (fun s => [(5, .slice (some ⟨(s.1), 0, none⟩) 2 2), (6, .slice (some ⟨(s.2.1), 0, none⟩) 2 2), (8, (s.2.2))]) (fun s w' => (w.heap.size ≤ (s.1) ∧ ∃ fr, w'.heap[(s.1)]? = some (.cells #[.int .u8 99, .int .u8 116] 5 fr)) ∧ (RdB w' (.slice (some ⟨(s.2.1), 0, none⟩) 2 2) [99, 116]) ∧ (RdB w' (s.2.2) (vput ver)) ∧ (BaseQ w o w')) ?_ ?_
                    rotate_left
                    · intro hJ0_1_3
                      refine join_ (σ := (Nat) × (Value) × (Unit)) 7 #[true, false, true, true, true, true, false, false, false, false, false, false] (fun s => [(5, .slice (some ⟨(s.1), 0, none⟩) 2 2), (8, (s.2.1)), (10, .string (textQ o))]) (fun s w' => (w.heap.size ≤ (s.1) ∧ ∃ fr, w'.heap[(s.1)]? = some (.cells #[.int .u8 99, .int .u8 116] 5 fr)) ∧ (RdB w' (s.2.1) (vput ver)) ∧ (True) ∧ (BaseQ w o w')) ?_ ?_
                      rotate_left
                      · intro hJ0_3_5
                        refine join_ (σ := (Value) × (Unit) × (Option Addr × Nat)) 7 #[false, false, true, true, true, true, true, false, false, false, false, false] (fun s => [(8, (s.1)), (10, .string (textQ o)), (11, .slice (s.2.2).1 (bytesOf (textQ o)).length (s.2.2).2)]) (fun s w' => (RdB w' (s.1) (vput ver)) ∧ (True) ∧ ((bytesOf (textQ o)).length ≤ (s.2.2).2 ∧ Kd.C (Kd.int .u8) w' (s.2.2).1 (bytesOf (textQ o)).length (bytesOf (textQ o))) ∧ (BaseQ w o w')) ?_ ?_
                        rotate_left
                        · intro hJ3_5_6
                          refine join_ (σ := (Nat) × (Nat)) 8 #[true, true, true, false, true, false, false, false, false, false, false, false] (fun s => [(5, .slice (some ⟨(s.1), 0, none⟩) 2 2), (6, .slice (some ⟨(s.2), 0, none⟩) 2 2)]) (fun s w' => (w.heap.size ≤ (s.1) ∧ ∃ fr, w'.heap[(s.1)]? = some (.cells #[.int .u8 99, .int .u8 116] 5 fr)) ∧ (RdB w' (.slice (some ⟨(s.2), 0, none⟩) 2 2) [99, 116]) ∧ (BaseQ w o w')) ?_ ?_
                          rotate_left
                          · intro hJ0_1
                            refine join_ (σ := (Nat) × (Value)) 8 #[true, false, true, true, true, false, false, false, false, false, false, false] (fun s => [(5, .slice (some ⟨(s.1), 0, none⟩) 2 2), (8, (s.2))]) (fun s w' => (w.heap.size ≤ (s.1) ∧ ∃ fr, w'.heap[(s.1)]? = some (.cells #[.int .u8 99, .int .u8 116] 5 fr)) ∧ (RdB w' (s.2) (vput ver)) ∧ (BaseQ w o w')) ?_ ?_
                            rotate_left
                            · intro hJ0_3
                              refine join_ (σ := (Value) × (Unit)) 8 #[false, false, true, true, true, true, false, false, false, false, false, false] (fun s => [(8, (s.1)), (10, .string (textQ o))]) (fun s w' => (RdB w' (s.1) (vput ver)) ∧ (True) ∧ (BaseQ w o w')) ?_ ?_
                              rotate_left
                              · intro hJ3_5
                                refine join_ (σ := (Nat)) 9 #[true, false, true, false, true, false, false, false, false, false, false, false] (fun s => [(5, .slice (some ⟨(s), 0, none⟩) 2 2)]) (fun s w' => (w.heap.size ≤ (s) ∧ ∃ fr, w'.heap[(s)]? = some (.cells #[.int .u8 99, .int .u8 116] 5 fr)) ∧ (BaseQ w o w')) ?_ ?_
                                rotate_left
                                · intro hJ0
                                  refine join_ (σ := (Value)) 9 #[false, false, true, true, true, false, false, false, false, false, false, false] (fun s => [(8, (s))]) (fun s w' => (RdB w' (s) (vput ver)) ∧ (BaseQ w o w')) ?_ ?_
                                  rotate_left
                                  · intro hJ3
                                    refine two_ (i := 0) (j := 3) (Ni := some 5) (Nj := some 8) #[true, false, true, false, true, false, false, false, false, false, false, false] #[false, false, true, true, true, false, false, false, false, false, false, false] rfl rfl rfl rfl (by kernel_rfl) (by decide) (by decide) (fun K hK => ?_) (fun K hK => ?_)
                                    · skip
                                      refine value_ (w1 := ?_) (v := ?_) (by rfl) rfl ?_ ?_
                                      rotate_left 2
                                      · go_simp
                                        constructor
                                        · rfl
                                        · rfl
                                      have HF0 := Lib.hid (show w.heap.size ≤ WN0.heap.size ∧ ∃ fr, (WN0.alloc (.cells #[.int .u8 99, .int .u8 116] 5)).heap[WN0.heap.size]? = some (.cells #[.int .u8 99, .int .u8 116] 5 fr) from ⟨HB.out.bw.size, _, heap_alloc_new WN0 _⟩)
                                      have HS : Hid (Stp w WN0 (WN0.alloc (.cells #[.int .u8 99, .int .u8 116] 5))) := Lib.hid (Stp.of_below (below_alloc (Below.refl _ _) _))
                                      have HB_ := HB
                                      clear HB
                                      have HB := Lib.hid (HB_.out.next HS.out)
                                      refine hK.out _ _ ⟨HB.out.c0, HB.out.c1⟩ (fun hHeld => ?_)
                                      clear hK K
                                      refine norm_ (a' := ?_) ?_ ?_
                                      rotate_left
                                      · show Act.put _ (some 5) _ = _
                                        simp only [Act.put, List.setIfInBounds_toArray, List.set_cons_zero, List.set_cons_succ, i64_w, i32_w]
                                        rfl
                                      exact norm_ (by first | (simp only [putAll, Act.put, List.setIfInBounds_toArray, List.set_cons_zero, List.set_cons_succ]; done) | (simp only [putAll, Act.put, List.setIfInBounds_toArray, List.set_cons_zero, List.set_cons_succ]; rfl)) (hJ0 _ _ ⟨HF0.out, HB.out⟩)
                                    · skip
                                      refine goes_ Tryz.func20 (by kernel_rfl) rfl #[.int .u64 ver] (by rfl) rfl rfl (by simp only [List.map_toArray, List.map_cons, List.map_nil]; rfl) ?_
                                      with_reducible refine (num_Put.calls 11 ver _ _ HV.out).mono ?_
                                      rintro ee wn_3m ⟨v3, rfl, ho, hb⟩
                                      refine ⟨_, rfl, ?_⟩
                                      have HF3 := Lib.hid (RdB.of_R ho)
                                      have HS := Lib.hid (Stp.of_below (w := w) hb)
                                      clear ho hb
                                      have HB_ := HB
                                      clear HB
                                      have HB := Lib.hid (HB_.out.next HS.out)
                                      refine hK.out _ _ ⟨HB.out.c0, HB.out.c1⟩ (fun hHeld => ?_)
                                      clear hK K
                                      refine norm_ (a' := ?_) ?_ ?_
                                      rotate_left
                                      · show Act.put _ (some 8) _ = _
                                        simp only [Act.put, List.setIfInBounds_toArray, List.set_cons_zero, List.set_cons_succ, i64_w, i32_w]
                                        rfl
                                      exact norm_ (by first | (simp only [putAll, Act.put, List.setIfInBounds_toArray, List.set_cons_zero, List.set_cons_succ]; done) | (simp only [putAll, Act.put, List.setIfInBounds_toArray, List.set_cons_zero, List.set_cons_succ]; rfl)) (hJ3 v3 _ ⟨HF3.out, HB.out⟩)
                                  · skip
                                    rintro v3 wn_3 ⟨hf3, hbase⟩
                                    have HF3 := Lib.hid hf3
                                    have HB := Lib.hid hbase
                                    clear hbase hf3
                                    have hHeld : (fun w' => w'.cell? ⟨w.heap.size, 0, none⟩ = some (.slice none 0 0) ∧ w'.cell? ⟨w.heap.size, 1, none⟩ = some (.int .i64 o)) wn_3 := ⟨HB.out.c0, HB.out.c1⟩
                                    refine norm_ (a' := ?_) ?_ ?_
                                    rotate_left
                                    · simp only [putAll, Act.put, List.setIfInBounds_toArray, List.set_cons_zero, List.set_cons_succ]
                                      rfl
                                    refine two_ (i := 0) (j := 5) (Ni := some 5) (Nj := some 10) #[true, false, true, true, true, false, false, false, false, false, false, false] #[false, false, true, true, true, true, false, false, false, false, false, false] rfl rfl rfl rfl (by kernel_rfl) (by decide) (by decide) (fun K hK => ?_) (fun K hK => ?_)
                                    · skip
                                      refine value_ (w1 := ?_) (v := ?_) (by rfl) rfl ?_ ?_
                                      rotate_left 2
                                      · go_simp
                                        constructor
                                        · rfl
                                        · rfl
                                      have HF0 := Lib.hid (show w.heap.size ≤ wn_3.heap.size ∧ ∃ fr, (wn_3.alloc (.cells #[.int .u8 99, .int .u8 116] 5)).heap[wn_3.heap.size]? = some (.cells #[.int .u8 99, .int .u8 116] 5 fr) from ⟨HB.out.bw.size, _, heap_alloc_new wn_3 _⟩)
                                      have HS : Hid (Stp w wn_3 (wn_3.alloc (.cells #[.int .u8 99, .int .u8 116] 5))) := Lib.hid (Stp.of_below (below_alloc (Below.refl _ _) _))
                                      have HB_ := HB
                                      clear HB
                                      have HB := Lib.hid (HB_.out.next HS.out)
                                      refine hK.out _ _ ⟨HB.out.c0, HB.out.c1⟩ (fun hHeld => ?_)
                                      clear hK K
                                      refine norm_ (a' := ?_) ?_ ?_
                                      rotate_left
                                      · show Act.put _ (some 5) _ = _
                                        simp only [Act.put, List.setIfInBounds_toArray, List.set_cons_zero, List.set_cons_succ, i64_w, i32_w]
                                        rfl
                                      exact norm_ (by first | (simp only [putAll, Act.put, List.setIfInBounds_toArray, List.set_cons_zero, List.set_cons_succ]; done) | (simp only [putAll, Act.put, List.setIfInBounds_toArray, List.set_cons_zero, List.set_cons_succ]; rfl)) (hJ0_3 (_, v3) _ ⟨HF0.out, (RdB.cells HF3.out HS.out.cell), HB.out⟩)
                                    · skip
                                      refine goes_ Tryz.func21 (by kernel_rfl) rfl #[.agg #[.slice none 0 0, .int .i64 o]] (by rfl) rfl rfl (by simp only [List.map_toArray, List.map_cons, List.map_nil]; rfl) ?_
                                      with_reducible refine (text_calls o HO.out _).mono ?_
                                      rintro ee wn_3_5m ⟨rfl, hb⟩
                                      refine ⟨_, rfl, ?_⟩
                                      have v5 : Unit := ()
                                      have HF5 := Lib.hid trivial
                                      have HS := Lib.hid (Stp.of_below (w := w) hb)
                                      clear hb
                                      have HB_ := HB
                                      clear HB
                                      have HB := Lib.hid (HB_.out.next HS.out)
                                      refine hK.out _ _ ⟨HB.out.c0, HB.out.c1⟩ (fun hHeld => ?_)
                                      clear hK K
                                      refine norm_ (a' := ?_) ?_ ?_
                                      rotate_left
                                      · show Act.put _ (some 10) _ = _
                                        simp only [Act.put, List.setIfInBounds_toArray, List.set_cons_zero, List.set_cons_succ, i64_w, i32_w]
                                        rfl
                                      exact norm_ (by first | (simp only [putAll, Act.put, List.setIfInBounds_toArray, List.set_cons_zero, List.set_cons_succ]; done) | (simp only [putAll, Act.put, List.setIfInBounds_toArray, List.set_cons_zero, List.set_cons_succ]; rfl)) (hJ3_5 (v3, v5) _ ⟨(RdB.cells HF3.out HS.out.cell), HF5.out, HB.out⟩)
                                · skip
                                  rintro v0 wn_0 ⟨hf0, hbase⟩
                                  have HF0 := Lib.hid hf0
                                  have HB := Lib.hid hbase
                                  clear hbase hf0
                                  have hHeld : (fun w' => w'.cell? ⟨w.heap.size, 0, none⟩ = some (.slice none 0 0) ∧ w'.cell? ⟨w.heap.size, 1, none⟩ = some (.int .i64 o)) wn_0 := ⟨HB.out.c0, HB.out.c1⟩
                                  refine norm_ (a' := ?_) ?_ ?_
                                  rotate_left
                                  · simp only [putAll, Act.put, List.setIfInBounds_toArray, List.set_cons_zero, List.set_cons_succ]
                                    rfl
                                  refine two_ (i := 1) (j := 3) (Ni := some 6) (Nj := some 8) #[true, true, true, false, true, false, false, false, false, false, false, false] #[true, false, true, true, true, false, false, false, false, false, false, false] rfl rfl rfl rfl (by kernel_rfl) (by decide) (by decide) (fun K hK => ?_) (fun K hK => ?_)
                                  · skip
                                    obtain ⟨hg0, fr0, hh0⟩ := HF0.out
                                    have hmk := mark_run (P := Tryz.prog) wn_0 23 5 _ fr0 v0 2 2 hh0 Tryz.underlying23 Tryz.underlying5
                                    refine value_ (w1 := ?_) (v := ?_) (by rfl) rfl ?_ ?_
                                    rotate_left 2
                                    · go_simp
                                      constructor
                                      · rfl
                                      · rfl
                                    have HS : Hid (Stp w wn_0 (wn_0.freeze ⟨v0, 2, none⟩ 1)) := Lib.hid (mark_stp hg0)
                                    have HF1 : Hid (RdB (wn_0.freeze ⟨v0, 2, none⟩ 1) (.slice (some ⟨v0, 0, none⟩) 2 2) [99, 116]) := Lib.hid ((RdB.block [99, 116] (by simp) hh0).cells HS.out.cell)
                                    clear hg0 hh0 hmk
                                    have HB_ := HB
                                    clear HB
                                    have HB := Lib.hid (HB_.out.next HS.out)
                                    refine hK.out _ _ ⟨HB.out.c0, HB.out.c1⟩ (fun hHeld => ?_)
                                    clear hK K
                                    refine norm_ (a' := ?_) ?_ ?_
                                    rotate_left
                                    · show Act.put _ (some 6) _ = _
                                      simp only [Act.put, List.setIfInBounds_toArray, List.set_cons_zero, List.set_cons_succ, i64_w, i32_w]
                                      rfl
                                    exact norm_ (by first | (simp only [putAll, Act.put, List.setIfInBounds_toArray, List.set_cons_zero, List.set_cons_succ]; done) | (simp only [putAll, Act.put, List.setIfInBounds_toArray, List.set_cons_zero, List.set_cons_succ]; rfl)) (hJ0_1 (v0, v0) _ ⟨(⟨HF0.out.1, HF0.out.2.elim fun fr hh => HS.out.blk _ _ _ _ hh⟩), HF1.out, HB.out⟩)
                                  · skip
                                    refine goes_ Tryz.func20 (by kernel_rfl) rfl #[.int .u64 ver] (by rfl) rfl rfl (by simp only [List.map_toArray, List.map_cons, List.map_nil]; rfl) ?_
                                    with_reducible refine (num_Put.calls 11 ver _ _ HV.out).mono ?_
                                    rintro ee wn_0_3m ⟨v3, rfl, ho, hb⟩
                                    refine ⟨_, rfl, ?_⟩
                                    have HF3 := Lib.hid (RdB.of_R ho)
                                    have HS := Lib.hid (Stp.of_below (w := w) hb)
                                    clear ho hb
                                    have HB_ := HB
                                    clear HB
                                    have HB := Lib.hid (HB_.out.next HS.out)
                                    refine hK.out _ _ ⟨HB.out.c0, HB.out.c1⟩ (fun hHeld => ?_)
                                    clear hK K
                                    refine norm_ (a' := ?_) ?_ ?_
                                    rotate_left
                                    · show Act.put _ (some 8) _ = _
                                      simp only [Act.put, List.setIfInBounds_toArray, List.set_cons_zero, List.set_cons_succ, i64_w, i32_w]
                                      rfl
                                    exact norm_ (by first | (simp only [putAll, Act.put, List.setIfInBounds_toArray, List.set_cons_zero, List.set_cons_succ]; done) | (simp only [putAll, Act.put, List.setIfInBounds_toArray, List.set_cons_zero, List.set_cons_succ]; rfl)) (hJ0_3 (v0, v3) _ ⟨(⟨HF0.out.1, HF0.out.2.elim fun fr hh => HS.out.blk _ _ _ _ hh⟩), HF3.out, HB.out⟩)
                              · skip
                                rintro ⟨v3, v5⟩ wn_3_5 ⟨hf3, hf5, hbase⟩
                                have HF3 := Lib.hid hf3
                                have HF5 := Lib.hid hf5
                                have HB := Lib.hid hbase
                                clear hbase hf3 hf5
                                have hHeld : (fun w' => w'.cell? ⟨w.heap.size, 0, none⟩ = some (.slice none 0 0) ∧ w'.cell? ⟨w.heap.size, 1, none⟩ = some (.int .i64 o)) wn_3_5 := ⟨HB.out.c0, HB.out.c1⟩
                                refine norm_ (a' := ?_) ?_ ?_
                                rotate_left
                                · simp only [putAll, Act.put, List.setIfInBounds_toArray, List.set_cons_zero, List.set_cons_succ]
                                  rfl
                                refine two_ (i := 0) (j := 6) (Ni := some 5) (Nj := some 11) #[true, false, true, true, true, true, false, false, false, false, false, false] #[false, false, true, true, true, true, true, false, false, false, false, false] rfl rfl rfl rfl (by kernel_rfl) (by decide) (by decide) (fun K hK => ?_) (fun K hK => ?_)
                                · skip
                                  refine value_ (w1 := ?_) (v := ?_) (by rfl) rfl ?_ ?_
                                  rotate_left 2
                                  · go_simp
                                    constructor
                                    · rfl
                                    · rfl
                                  have HF0 := Lib.hid (show w.heap.size ≤ wn_3_5.heap.size ∧ ∃ fr, (wn_3_5.alloc (.cells #[.int .u8 99, .int .u8 116] 5)).heap[wn_3_5.heap.size]? = some (.cells #[.int .u8 99, .int .u8 116] 5 fr) from ⟨HB.out.bw.size, _, heap_alloc_new wn_3_5 _⟩)
                                  have HS : Hid (Stp w wn_3_5 (wn_3_5.alloc (.cells #[.int .u8 99, .int .u8 116] 5))) := Lib.hid (Stp.of_below (below_alloc (Below.refl _ _) _))
                                  have HB_ := HB
                                  clear HB
                                  have HB := Lib.hid (HB_.out.next HS.out)
                                  refine hK.out _ _ ⟨HB.out.c0, HB.out.c1⟩ (fun hHeld => ?_)
                                  clear hK K
                                  refine norm_ (a' := ?_) ?_ ?_
                                  rotate_left
                                  · show Act.put _ (some 5) _ = _
                                    simp only [Act.put, List.setIfInBounds_toArray, List.set_cons_zero, List.set_cons_succ, i64_w, i32_w]
                                    rfl
                                  exact norm_ (by first | (simp only [putAll, Act.put, List.setIfInBounds_toArray, List.set_cons_zero, List.set_cons_succ]; done) | (simp only [putAll, Act.put, List.setIfInBounds_toArray, List.set_cons_zero, List.set_cons_succ]; rfl)) (hJ0_3_5 (_, v3, v5) _ ⟨HF0.out, (RdB.cells HF3.out HS.out.cell), (HF5.out), HB.out⟩)
                                · skip
                                  refine Conv.V_conv_step (w0 := wn_3_5) wn_3_5.heap.size 5 (by rfl) (by rfl) 9 23 (.tmp 10) (by rfl) Tryz.underlying9 Tryz.underlying23 Tryz.underlying5 (textQ o) (by rfl) (by have := HTS.out; omega) (Below.refl _ _) (Nat.le_refl _) ?_
                                  intro v6 wn_3_5_6m ho hb hg_ hnew_
                                  obtain ⟨A6, c6, rfl, hc6, hr6⟩ := RdB.of_V ho
                                  have HF6 := Lib.hid (show _ ∧ _ from ⟨hc6, hr6⟩)
                                  have HS := Lib.hid (Stp.of_below (w := w) hb)
                                  clear ho hb hg_ hnew_ hc6 hr6
                                  have HB_ := HB
                                  clear HB
                                  have HB := Lib.hid (HB_.out.next HS.out)
                                  refine hK.out _ _ ⟨HB.out.c0, HB.out.c1⟩ (fun hHeld => ?_)
                                  clear hK K
                                  refine norm_ (a' := ?_) ?_ ?_
                                  rotate_left
                                  · show Act.put _ (some 11) _ = _
                                    simp only [Act.put, List.setIfInBounds_toArray, List.set_cons_zero, List.set_cons_succ, i64_w, i32_w]
                                    rfl
                                  exact norm_ (by first | (simp only [putAll, Act.put, List.setIfInBounds_toArray, List.set_cons_zero, List.set_cons_succ]; done) | (simp only [putAll, Act.put, List.setIfInBounds_toArray, List.set_cons_zero, List.set_cons_succ]; rfl)) (hJ3_5_6 (v3, v5, (A6, c6)) _ ⟨(RdB.cells HF3.out HS.out.cell), (HF5.out), HF6.out, HB.out⟩)
                            · skip
                              rintro ⟨v0, v3⟩ wn_0_3 ⟨hf0, hf3, hbase⟩
                              have HF0 := Lib.hid hf0
                              have HF3 := Lib.hid hf3
                              have HB := Lib.hid hbase
                              clear hbase hf0 hf3
                              have hHeld : (fun w' => w'.cell? ⟨w.heap.size, 0, none⟩ = some (.slice none 0 0) ∧ w'.cell? ⟨w.heap.size, 1, none⟩ = some (.int .i64 o)) wn_0_3 := ⟨HB.out.c0, HB.out.c1⟩
                              refine norm_ (a' := ?_) ?_ ?_
                              rotate_left
                              · simp only [putAll, Act.put, List.setIfInBounds_toArray, List.set_cons_zero, List.set_cons_succ]
                                rfl
                              refine two_ (i := 1) (j := 5) (Ni := some 6) (Nj := some 10) #[true, true, true, true, true, false, false, false, false, false, false, false] #[true, false, true, true, true, true, false, false, false, false, false, false] rfl rfl rfl rfl (by kernel_rfl) (by decide) (by decide) (fun K hK => ?_) (fun K hK => ?_)
                              · skip
                                obtain ⟨hg0, fr0, hh0⟩ := HF0.out
                                have hmk := mark_run (P := Tryz.prog) wn_0_3 23 5 _ fr0 v0 2 2 hh0 Tryz.underlying23 Tryz.underlying5
                                refine value_ (w1 := ?_) (v := ?_) (by rfl) rfl ?_ ?_
                                rotate_left 2
                                · go_simp
                                  constructor
                                  · rfl
                                  · rfl
                                have HS : Hid (Stp w wn_0_3 (wn_0_3.freeze ⟨v0, 2, none⟩ 1)) := Lib.hid (mark_stp hg0)
                                have HF1 : Hid (RdB (wn_0_3.freeze ⟨v0, 2, none⟩ 1) (.slice (some ⟨v0, 0, none⟩) 2 2) [99, 116]) := Lib.hid ((RdB.block [99, 116] (by simp) hh0).cells HS.out.cell)
                                clear hg0 hh0 hmk
                                have HB_ := HB
                                clear HB
                                have HB := Lib.hid (HB_.out.next HS.out)
                                refine hK.out _ _ ⟨HB.out.c0, HB.out.c1⟩ (fun hHeld => ?_)
                                clear hK K
                                refine norm_ (a' := ?_) ?_ ?_
                                rotate_left
                                · show Act.put _ (some 6) _ = _
                                  simp only [Act.put, List.setIfInBounds_toArray, List.set_cons_zero, List.set_cons_succ, i64_w, i32_w]
                                  rfl
                                exact norm_ (by first | (simp only [putAll, Act.put, List.setIfInBounds_toArray, List.set_cons_zero, List.set_cons_succ]; done) | (simp only [putAll, Act.put, List.setIfInBounds_toArray, List.set_cons_zero, List.set_cons_succ]; rfl)) (hJ0_1_3 (v0, v0, v3) _ ⟨(⟨HF0.out.1, HF0.out.2.elim fun fr hh => HS.out.blk _ _ _ _ hh⟩), HF1.out, (RdB.cells HF3.out HS.out.cell), HB.out⟩)
                              · skip
                                refine goes_ Tryz.func21 (by kernel_rfl) rfl #[.agg #[.slice none 0 0, .int .i64 o]] (by rfl) rfl rfl (by simp only [List.map_toArray, List.map_cons, List.map_nil]; rfl) ?_
                                with_reducible refine (text_calls o HO.out _).mono ?_
                                rintro ee wn_0_3_5m ⟨rfl, hb⟩
                                refine ⟨_, rfl, ?_⟩
                                have v5 : Unit := ()
                                have HF5 := Lib.hid trivial
                                have HS := Lib.hid (Stp.of_below (w := w) hb)
                                clear hb
                                have HB_ := HB
                                clear HB
                                have HB := Lib.hid (HB_.out.next HS.out)
                                refine hK.out _ _ ⟨HB.out.c0, HB.out.c1⟩ (fun hHeld => ?_)
                                clear hK K
                                refine norm_ (a' := ?_) ?_ ?_
                                rotate_left
                                · show Act.put _ (some 10) _ = _
                                  simp only [Act.put, List.setIfInBounds_toArray, List.set_cons_zero, List.set_cons_succ, i64_w, i32_w]
                                  rfl
                                exact norm_ (by first | (simp only [putAll, Act.put, List.setIfInBounds_toArray, List.set_cons_zero, List.set_cons_succ]; done) | (simp only [putAll, Act.put, List.setIfInBounds_toArray, List.set_cons_zero, List.set_cons_succ]; rfl)) (hJ0_3_5 (v0, v3, v5) _ ⟨(⟨HF0.out.1, HF0.out.2.elim fun fr hh => HS.out.blk _ _ _ _ hh⟩), (RdB.cells HF3.out HS.out.cell), HF5.out, HB.out⟩)
                          · skip
                            rintro ⟨v0, v1⟩ wn_0_1 ⟨hf0, hf1, hbase⟩
                            have HF0 := Lib.hid hf0
                            have HF1 := Lib.hid hf1
                            have HB := Lib.hid hbase
                            clear hbase hf0 hf1
                            have hHeld : (fun w' => w'.cell? ⟨w.heap.size, 0, none⟩ = some (.slice none 0 0) ∧ w'.cell? ⟨w.heap.size, 1, none⟩ = some (.int .i64 o)) wn_0_1 := ⟨HB.out.c0, HB.out.c1⟩
                            refine norm_ (a' := ?_) ?_ ?_
                            rotate_left
                            · simp only [putAll, Act.put, List.setIfInBounds_toArray, List.set_cons_zero, List.set_cons_succ]
                              rfl
                            refine one_ (i := 3) (N := some 8) #[true, true, true, true, true, false, false, false, false, false, false, false] rfl rfl (by kernel_rfl) (by decide) (fun K hK => ?_)
                            refine goes_ Tryz.func20 (by kernel_rfl) rfl #[.int .u64 ver] (by rfl) rfl rfl (by simp only [List.map_toArray, List.map_cons, List.map_nil]; rfl) ?_
                            with_reducible refine (num_Put.calls 11 ver _ _ HV.out).mono ?_
                            rintro ee wn_0_1_3m ⟨v3, rfl, ho, hb⟩
                            refine ⟨_, rfl, ?_⟩
                            have HF3 := Lib.hid (RdB.of_R ho)
                            have HS := Lib.hid (Stp.of_below (w := w) hb)
                            clear ho hb
                            have HB_ := HB
                            clear HB
                            have HB := Lib.hid (HB_.out.next HS.out)
                            refine hK.out _ _ ⟨HB.out.c0, HB.out.c1⟩ (fun hHeld => ?_)
                            clear hK K
                            refine norm_ (a' := ?_) ?_ ?_
                            rotate_left
                            · show Act.put _ (some 8) _ = _
                              simp only [Act.put, List.setIfInBounds_toArray, List.set_cons_zero, List.set_cons_succ, i64_w, i32_w]
                              rfl
                            exact norm_ (by first | (simp only [putAll, Act.put, List.setIfInBounds_toArray, List.set_cons_zero, List.set_cons_succ]; done) | (simp only [putAll, Act.put, List.setIfInBounds_toArray, List.set_cons_zero, List.set_cons_succ]; rfl)) (hJ0_1_3 (v0, v1, v3) _ ⟨(⟨HF0.out.1, HF0.out.2.elim fun fr hh => HS.out.blk _ _ _ _ hh⟩), (RdB.cells HF1.out HS.out.cell), HF3.out, HB.out⟩)
                        · skip
                          rintro ⟨v3, v5, v6⟩ wn_3_5_6 ⟨hf3, hf5, hf6, hbase⟩
                          have HF3 := Lib.hid hf3
                          have HF5 := Lib.hid hf5
                          have HF6 := Lib.hid hf6
                          have HB := Lib.hid hbase
                          clear hbase hf3 hf5 hf6
                          have hHeld : (fun w' => w'.cell? ⟨w.heap.size, 0, none⟩ = some (.slice none 0 0) ∧ w'.cell? ⟨w.heap.size, 1, none⟩ = some (.int .i64 o)) wn_3_5_6 := ⟨HB.out.c0, HB.out.c1⟩
                          refine norm_ (a' := ?_) ?_ ?_
                          rotate_left
                          · simp only [putAll, Act.put, List.setIfInBounds_toArray, List.set_cons_zero, List.set_cons_succ]
                            rfl
                          refine two_ (i := 0) (j := 7) (Ni := some 5) (Nj := some 12) #[true, false, true, true, true, true, true, false, false, false, false, false] #[false, false, true, true, true, true, true, true, false, false, false, false] rfl rfl rfl rfl (by kernel_rfl) (by decide) (by decide) (fun K hK => ?_) (fun K hK => ?_)
                          · skip
                            refine value_ (w1 := ?_) (v := ?_) (by rfl) rfl ?_ ?_
                            rotate_left 2
                            · go_simp
                              constructor
                              · rfl
                              · rfl
                            have HF0 := Lib.hid (show w.heap.size ≤ wn_3_5_6.heap.size ∧ ∃ fr, (wn_3_5_6.alloc (.cells #[.int .u8 99, .int .u8 116] 5)).heap[wn_3_5_6.heap.size]? = some (.cells #[.int .u8 99, .int .u8 116] 5 fr) from ⟨HB.out.bw.size, _, heap_alloc_new wn_3_5_6 _⟩)
                            have HS : Hid (Stp w wn_3_5_6 (wn_3_5_6.alloc (.cells #[.int .u8 99, .int .u8 116] 5))) := Lib.hid (Stp.of_below (below_alloc (Below.refl _ _) _))
                            have HB_ := HB
                            clear HB
                            have HB := Lib.hid (HB_.out.next HS.out)
                            refine hK.out _ _ ⟨HB.out.c0, HB.out.c1⟩ (fun hHeld => ?_)
                            clear hK K
                            refine norm_ (a' := ?_) ?_ ?_
                            rotate_left
                            · show Act.put _ (some 5) _ = _
                              simp only [Act.put, List.setIfInBounds_toArray, List.set_cons_zero, List.set_cons_succ, i64_w, i32_w]
                              rfl
                            exact norm_ (by first | (simp only [putAll, Act.put, List.setIfInBounds_toArray, List.set_cons_zero, List.set_cons_succ]; done) | (simp only [putAll, Act.put, List.setIfInBounds_toArray, List.set_cons_zero, List.set_cons_succ]; rfl)) (hJ0_3_5_6 (_, v3, v5, v6) _ ⟨HF0.out, (RdB.cells HF3.out HS.out.cell), (HF5.out), (⟨HF6.out.1, C_cells HF6.out.2 HS.out.cell⟩), HB.out⟩)
                          · skip
                            refine goes_ Tryz.func12 (by kernel_rfl) rfl #[.slice v6.1 (bytesOf (textQ o)).length v6.2] (by rfl) rfl rfl (by simp only [List.map_toArray, List.map_cons, List.map_nil]; rfl) ?_
                            with_reducible refine (crc_Sum.calls v6.1 v6.2 _ cs _ HF6.out.2 HF6.out.1 HC.out).mono ?_
                            rintro ee wn_3_5_6_7m ⟨rfl, hb⟩
                            refine ⟨_, rfl, ?_⟩
                            have v7 : Unit := ()
                            have HF7 := Lib.hid trivial
                            have HS := Lib.hid (Stp.of_below (w := w) hb)
                            clear hb
                            have HB_ := HB
                            clear HB
                            have HB := Lib.hid (HB_.out.next HS.out)
                            refine hK.out _ _ ⟨HB.out.c0, HB.out.c1⟩ (fun hHeld => ?_)
                            clear hK K
                            refine norm_ (a' := ?_) ?_ ?_
                            rotate_left
                            · show Act.put _ (some 12) _ = _
                              simp only [Act.put, List.setIfInBounds_toArray, List.set_cons_zero, List.set_cons_succ, i64_w, i32_w]
                              rfl
                            exact norm_ (by first | (simp only [putAll, Act.put, List.setIfInBounds_toArray, List.set_cons_zero, List.set_cons_succ]; done) | (simp only [putAll, Act.put, List.setIfInBounds_toArray, List.set_cons_zero, List.set_cons_succ]; rfl)) (hJ3_5_6_7 (v3, v5, v6, v7) _ ⟨(RdB.cells HF3.out HS.out.cell), (HF5.out), (⟨HF6.out.1, C_cells HF6.out.2 HS.out.cell⟩), HF7.out, HB.out⟩)
                      · skip
                        rintro ⟨v0, v3, v5⟩ wn_0_3_5 ⟨hf0, hf3, hf5, hbase⟩
                        have HF0 := Lib.hid hf0
                        have HF3 := Lib.hid hf3
                        have HF5 := Lib.hid hf5
                        have HB := Lib.hid hbase
                        clear hbase hf0 hf3 hf5
                        have hHeld : (fun w' => w'.cell? ⟨w.heap.size, 0, none⟩ = some (.slice none 0 0) ∧ w'.cell? ⟨w.heap.size, 1, none⟩ = some (.int .i64 o)) wn_0_3_5 := ⟨HB.out.c0, HB.out.c1⟩
                        refine norm_ (a' := ?_) ?_ ?_
                        rotate_left
                        · simp only [putAll, Act.put, List.setIfInBounds_toArray, List.set_cons_zero, List.set_cons_succ]
                          rfl
                        refine two_ (i := 1) (j := 6) (Ni := some 6) (Nj := some 11) #[true, true, true, true, true, true, false, false, false, false, false, false] #[true, false, true, true, true, true, true, false, false, false, false, false] rfl rfl rfl rfl (by kernel_rfl) (by decide) (by decide) (fun K hK => ?_) (fun K hK => ?_)
                        · skip
                          obtain ⟨hg0, fr0, hh0⟩ := HF0.out
                          have hmk := mark_run (P := Tryz.prog) wn_0_3_5 23 5 _ fr0 v0 2 2 hh0 Tryz.underlying23 Tryz.underlying5
                          refine value_ (w1 := ?_) (v := ?_) (by rfl) rfl ?_ ?_
                          rotate_left 2
                          · go_simp
                            constructor
                            · rfl
                            · rfl
                          have HS : Hid (Stp w wn_0_3_5 (wn_0_3_5.freeze ⟨v0, 2, none⟩ 1)) := Lib.hid (mark_stp hg0)
                          have HF1 : Hid (RdB (wn_0_3_5.freeze ⟨v0, 2, none⟩ 1) (.slice (some ⟨v0, 0, none⟩) 2 2) [99, 116]) := Lib.hid ((RdB.block [99, 116] (by simp) hh0).cells HS.out.cell)
                          clear hg0 hh0 hmk
                          have HB_ := HB
                          clear HB
                          have HB := Lib.hid (HB_.out.next HS.out)
                          refine hK.out _ _ ⟨HB.out.c0, HB.out.c1⟩ (fun hHeld => ?_)
                          clear hK K
                          refine norm_ (a' := ?_) ?_ ?_
                          rotate_left
                          · show Act.put _ (some 6) _ = _
                            simp only [Act.put, List.setIfInBounds_toArray, List.set_cons_zero, List.set_cons_succ, i64_w, i32_w]
                            rfl
                          exact norm_ (by first | (simp only [putAll, Act.put, List.setIfInBounds_toArray, List.set_cons_zero, List.set_cons_succ]; done) | (simp only [putAll, Act.put, List.setIfInBounds_toArray, List.set_cons_zero, List.set_cons_succ]; rfl)) (hJ0_1_3_5 (v0, v0, v3, v5) _ ⟨(⟨HF0.out.1, HF0.out.2.elim fun fr hh => HS.out.blk _ _ _ _ hh⟩), HF1.out, (RdB.cells HF3.out HS.out.cell), (HF5.out), HB.out⟩)
                        · skip
                          refine Conv.V_conv_step (w0 := wn_0_3_5) wn_0_3_5.heap.size 5 (by rfl) (by rfl) 9 23 (.tmp 10) (by rfl) Tryz.underlying9 Tryz.underlying23 Tryz.underlying5 (textQ o) (by rfl) (by have := HTS.out; omega) (Below.refl _ _) (Nat.le_refl _) ?_
                          intro v6 wn_0_3_5_6m ho hb hg_ hnew_
                          obtain ⟨A6, c6, rfl, hc6, hr6⟩ := RdB.of_V ho
                          have HF6 := Lib.hid (show _ ∧ _ from ⟨hc6, hr6⟩)
                          have HS := Lib.hid (Stp.of_below (w := w) hb)
                          clear ho hb hg_ hnew_ hc6 hr6
                          have HB_ := HB
                          clear HB
                          have HB := Lib.hid (HB_.out.next HS.out)
                          refine hK.out _ _ ⟨HB.out.c0, HB.out.c1⟩ (fun hHeld => ?_)
                          clear hK K
                          refine norm_ (a' := ?_) ?_ ?_
                          rotate_left
                          · show Act.put _ (some 11) _ = _
                            simp only [Act.put, List.setIfInBounds_toArray, List.set_cons_zero, List.set_cons_succ, i64_w, i32_w]
                            rfl
                          exact norm_ (by first | (simp only [putAll, Act.put, List.setIfInBounds_toArray, List.set_cons_zero, List.set_cons_succ]; done) | (simp only [putAll, Act.put, List.setIfInBounds_toArray, List.set_cons_zero, List.set_cons_succ]; rfl)) (hJ0_3_5_6 (v0, v3, v5, (A6, c6)) _ ⟨(⟨HF0.out.1, HF0.out.2.elim fun fr hh => HS.out.blk _ _ _ _ hh⟩), (RdB.cells HF3.out HS.out.cell), (HF5.out), HF6.out, HB.out⟩)
                    · skip
                      rintro ⟨v0, v1, v3⟩ wn_0_1_3 ⟨hf0, hf1, hf3, hbase⟩
                      have HF0 := Lib.hid hf0
                      have HF1 := Lib.hid hf1
                      have HF3 := Lib.hid hf3
                      have HB := Lib.hid hbase
                      clear hbase hf0 hf1 hf3
                      have hHeld : (fun w' => w'.cell? ⟨w.heap.size, 0, none⟩ = some (.slice none 0 0) ∧ w'.cell? ⟨w.heap.size, 1, none⟩ = some (.int .i64 o)) wn_0_1_3 := ⟨HB.out.c0, HB.out.c1⟩
                      refine norm_ (a' := ?_) ?_ ?_
                      rotate_left
                      · simp only [putAll, Act.put, List.setIfInBounds_toArray, List.set_cons_zero, List.set_cons_succ]
                        rfl
                      refine one_ (i := 5) (N := some 10) #[true, true, true, true, true, true, false, false, false, false, false, false] rfl rfl (by kernel_rfl) (by decide) (fun K hK => ?_)
                      refine goes_ Tryz.func21 (by kernel_rfl) rfl #[.agg #[.slice none 0 0, .int .i64 o]] (by rfl) rfl rfl (by simp only [List.map_toArray, List.map_cons, List.map_nil]; rfl) ?_
                      with_reducible refine (text_calls o HO.out _).mono ?_
                      rintro ee wn_0_1_3_5m ⟨rfl, hb⟩
                      refine ⟨_, rfl, ?_⟩
                      have v5 : Unit := ()
                      have HF5 := Lib.hid trivial
                      have HS := Lib.hid (Stp.of_below (w := w) hb)
                      clear hb
                      have HB_ := HB
                      clear HB
                      have HB := Lib.hid (HB_.out.next HS.out)
                      refine hK.out _ _ ⟨HB.out.c0, HB.out.c1⟩ (fun hHeld => ?_)
                      clear hK K
                      refine norm_ (a' := ?_) ?_ ?_
                      rotate_left
                      · show Act.put _ (some 10) _ = _
                        simp only [Act.put, List.setIfInBounds_toArray, List.set_cons_zero, List.set_cons_succ, i64_w, i32_w]
                        rfl
                      exact norm_ (by first | (simp only [putAll, Act.put, List.setIfInBounds_toArray, List.set_cons_zero, List.set_cons_succ]; done) | (simp only [putAll, Act.put, List.setIfInBounds_toArray, List.set_cons_zero, List.set_cons_succ]; rfl)) (hJ0_1_3_5 (v0, v1, v3, v5) _ ⟨(⟨HF0.out.1, HF0.out.2.elim fun fr hh => HS.out.blk _ _ _ _ hh⟩), (RdB.cells HF1.out HS.out.cell), (RdB.cells HF3.out HS.out.cell), HF5.out, HB.out⟩)
                  · skip
                    rintro ⟨v3, v5, v6, v7⟩ wn_3_5_6_7 ⟨hf3, hf5, hf6, hf7, hbase⟩
                    have HF3 := Lib.hid hf3
                    have HF5 := Lib.hid hf5
                    have HF6 := Lib.hid hf6
                    have HF7 := Lib.hid hf7
                    have HB := Lib.hid hbase
                    clear hbase hf3 hf5 hf6 hf7
                    have hHeld : (fun w' => w'.cell? ⟨w.heap.size, 0, none⟩ = some (.slice none 0 0) ∧ w'.cell? ⟨w.heap.size, 1, none⟩ = some (.int .i64 o)) wn_3_5_6_7 := ⟨HB.out.c0, HB.out.c1⟩
                    refine norm_ (a' := ?_) ?_ ?_
                    rotate_left
                    · simp only [putAll, Act.put, List.setIfInBounds_toArray, List.set_cons_zero, List.set_cons_succ]
                      rfl
                    refine two_ (i := 0) (j := 8) (Ni := some 5) (Nj := some 13) #[true, false, true, true, true, true, true, true, false, false, false, false] #[false, false, true, true, true, true, true, true, true, false, false, false] rfl rfl rfl rfl (by kernel_rfl) (by decide) (by decide) (fun K hK => ?_) (fun K hK => ?_)
                    · skip
                      refine value_ (w1 := ?_) (v := ?_) (by rfl) rfl ?_ ?_
                      rotate_left 2
                      · go_simp
                        constructor
                        · rfl
                        · rfl
                      have HF0 := Lib.hid (show w.heap.size ≤ wn_3_5_6_7.heap.size ∧ ∃ fr, (wn_3_5_6_7.alloc (.cells #[.int .u8 99, .int .u8 116] 5)).heap[wn_3_5_6_7.heap.size]? = some (.cells #[.int .u8 99, .int .u8 116] 5 fr) from ⟨HB.out.bw.size, _, heap_alloc_new wn_3_5_6_7 _⟩)
                      have HS : Hid (Stp w wn_3_5_6_7 (wn_3_5_6_7.alloc (.cells #[.int .u8 99, .int .u8 116] 5))) := Lib.hid (Stp.of_below (below_alloc (Below.refl _ _) _))
                      have HB_ := HB
                      clear HB
                      have HB := Lib.hid (HB_.out.next HS.out)
                      refine hK.out _ _ ⟨HB.out.c0, HB.out.c1⟩ (fun hHeld => ?_)
                      clear hK K
                      refine norm_ (a' := ?_) ?_ ?_
                      rotate_left
                      · show Act.put _ (some 5) _ = _
                        simp only [Act.put, List.setIfInBounds_toArray, List.set_cons_zero, List.set_cons_succ, i64_w, i32_w]
                        rfl
                      exact norm_ (by first | (simp only [putAll, Act.put, List.setIfInBounds_toArray, List.set_cons_zero, List.set_cons_succ]; done) | (simp only [putAll, Act.put, List.setIfInBounds_toArray, List.set_cons_zero, List.set_cons_succ]; rfl)) (hJ0_3_5_6_7 (_, v3, v5, v6, v7) _ ⟨HF0.out, (RdB.cells HF3.out HS.out.cell), (HF5.out), (⟨HF6.out.1, C_cells HF6.out.2 HS.out.cell⟩), (HF7.out), HB.out⟩)
                    · skip
                      refine goes_ Tryz.func11 (by kernel_rfl) rfl #[.int .u32 cs] (by rfl) rfl rfl (by simp only [List.map_toArray, List.map_cons, List.map_nil]; rfl) ?_
                      with_reducible refine (num_Put32.calls 9 cs _ _ HP.out).mono ?_
                      rintro ee wn_3_5_6_7_8m ⟨v8, rfl, ho, hb⟩
                      refine ⟨_, rfl, ?_⟩
                      have HF8 := Lib.hid (RdB.of_Q ho)
                      have HS := Lib.hid (Stp.of_below (w := w) hb)
                      clear ho hb
                      have HB_ := HB
                      clear HB
                      have HB := Lib.hid (HB_.out.next HS.out)
                      refine hK.out _ _ ⟨HB.out.c0, HB.out.c1⟩ (fun hHeld => ?_)
                      clear hK K
                      refine norm_ (a' := ?_) ?_ ?_
                      rotate_left
                      · show Act.put _ (some 13) _ = _
                        simp only [Act.put, List.setIfInBounds_toArray, List.set_cons_zero, List.set_cons_succ, i64_w, i32_w]
                        rfl
                      exact norm_ (by first | (simp only [putAll, Act.put, List.setIfInBounds_toArray, List.set_cons_zero, List.set_cons_succ]; done) | (simp only [putAll, Act.put, List.setIfInBounds_toArray, List.set_cons_zero, List.set_cons_succ]; rfl)) (hJ3_5_6_7_8 (v3, v5, v6, v7, v8) _ ⟨(RdB.cells HF3.out HS.out.cell), (HF5.out), (⟨HF6.out.1, C_cells HF6.out.2 HS.out.cell⟩), (HF7.out), HF8.out, HB.out⟩)
                · skip
                  rintro ⟨v0, v3, v5, v6⟩ wn_0_3_5_6 ⟨hf0, hf3, hf5, hf6, hbase⟩
                  have HF0 := Lib.hid hf0
                  have HF3 := Lib.hid hf3
                  have HF5 := Lib.hid hf5
                  have HF6 := Lib.hid hf6
                  have HB := Lib.hid hbase
                  clear hbase hf0 hf3 hf5 hf6
                  have hHeld : (fun w' => w'.cell? ⟨w.heap.size, 0, none⟩ = some (.slice none 0 0) ∧ w'.cell? ⟨w.heap.size, 1, none⟩ = some (.int .i64 o)) wn_0_3_5_6 := ⟨HB.out.c0, HB.out.c1⟩
                  refine norm_ (a' := ?_) ?_ ?_
                  rotate_left
                  · simp only [putAll, Act.put, List.setIfInBounds_toArray, List.set_cons_zero, List.set_cons_succ]
                    rfl
                  refine two_ (i := 1) (j := 7) (Ni := some 6) (Nj := some 12) #[true, true, true, true, true, true, true, false, false, false, false, false] #[true, false, true, true, true, true, true, true, false, false, false, false] rfl rfl rfl rfl (by kernel_rfl) (by decide) (by decide) (fun K hK => ?_) (fun K hK => ?_)
                  · skip
                    obtain ⟨hg0, fr0, hh0⟩ := HF0.out
                    have hmk := mark_run (P := Tryz.prog) wn_0_3_5_6 23 5 _ fr0 v0 2 2 hh0 Tryz.underlying23 Tryz.underlying5
                    refine value_ (w1 := ?_) (v := ?_) (by rfl) rfl ?_ ?_
                    rotate_left 2
                    · go_simp
                      constructor
                      · rfl
                      · rfl
                    have HS : Hid (Stp w wn_0_3_5_6 (wn_0_3_5_6.freeze ⟨v0, 2, none⟩ 1)) := Lib.hid (mark_stp hg0)
                    have HF1 : Hid (RdB (wn_0_3_5_6.freeze ⟨v0, 2, none⟩ 1) (.slice (some ⟨v0, 0, none⟩) 2 2) [99, 116]) := Lib.hid ((RdB.block [99, 116] (by simp) hh0).cells HS.out.cell)
                    clear hg0 hh0 hmk
                    have HB_ := HB
                    clear HB
                    have HB := Lib.hid (HB_.out.next HS.out)
                    refine hK.out _ _ ⟨HB.out.c0, HB.out.c1⟩ (fun hHeld => ?_)
                    clear hK K
                    refine norm_ (a' := ?_) ?_ ?_
                    rotate_left
                    · show Act.put _ (some 6) _ = _
                      simp only [Act.put, List.setIfInBounds_toArray, List.set_cons_zero, List.set_cons_succ, i64_w, i32_w]
                      rfl
                    exact norm_ (by first | (simp only [putAll, Act.put, List.setIfInBounds_toArray, List.set_cons_zero, List.set_cons_succ]; done) | (simp only [putAll, Act.put, List.setIfInBounds_toArray, List.set_cons_zero, List.set_cons_succ]; rfl)) (hJ0_1_3_5_6 (v0, v0, v3, v5, v6) _ ⟨(⟨HF0.out.1, HF0.out.2.elim fun fr hh => HS.out.blk _ _ _ _ hh⟩), HF1.out, (RdB.cells HF3.out HS.out.cell), (HF5.out), (⟨HF6.out.1, C_cells HF6.out.2 HS.out.cell⟩), HB.out⟩)
                  · skip
                    refine goes_ Tryz.func12 (by kernel_rfl) rfl #[.slice v6.1 (bytesOf (textQ o)).length v6.2] (by rfl) rfl rfl (by simp only [List.map_toArray, List.map_cons, List.map_nil]; rfl) ?_
                    with_reducible refine (crc_Sum.calls v6.1 v6.2 _ cs _ HF6.out.2 HF6.out.1 HC.out).mono ?_
                    rintro ee wn_0_3_5_6_7m ⟨rfl, hb⟩
                    refine ⟨_, rfl, ?_⟩
                    have v7 : Unit := ()
                    have HF7 := Lib.hid trivial
                    have HS := Lib.hid (Stp.of_below (w := w) hb)
                    clear hb
                    have HB_ := HB
                    clear HB
                    have HB := Lib.hid (HB_.out.next HS.out)
                    refine hK.out _ _ ⟨HB.out.c0, HB.out.c1⟩ (fun hHeld => ?_)
                    clear hK K
                    refine norm_ (a' := ?_) ?_ ?_
                    rotate_left
                    · show Act.put _ (some 12) _ = _
                      simp only [Act.put, List.setIfInBounds_toArray, List.set_cons_zero, List.set_cons_succ, i64_w, i32_w]
                      rfl
                    exact norm_ (by first | (simp only [putAll, Act.put, List.setIfInBounds_toArray, List.set_cons_zero, List.set_cons_succ]; done) | (simp only [putAll, Act.put, List.setIfInBounds_toArray, List.set_cons_zero, List.set_cons_succ]; rfl)) (hJ0_3_5_6_7 (v0, v3, v5, v6, v7) _ ⟨(⟨HF0.out.1, HF0.out.2.elim fun fr hh => HS.out.blk _ _ _ _ hh⟩), (RdB.cells HF3.out HS.out.cell), (HF5.out), (⟨HF6.out.1, C_cells HF6.out.2 HS.out.cell⟩), HF7.out, HB.out⟩)
              · skip
                rintro ⟨v0, v1, v3, v5⟩ wn_0_1_3_5 ⟨hf0, hf1, hf3, hf5, hbase⟩
                have HF0 := Lib.hid hf0
                have HF1 := Lib.hid hf1
                have HF3 := Lib.hid hf3
                have HF5 := Lib.hid hf5
                have HB := Lib.hid hbase
                clear hbase hf0 hf1 hf3 hf5
                have hHeld : (fun w' => w'.cell? ⟨w.heap.size, 0, none⟩ = some (.slice none 0 0) ∧ w'.cell? ⟨w.heap.size, 1, none⟩ = some (.int .i64 o)) wn_0_1_3_5 := ⟨HB.out.c0, HB.out.c1⟩
                refine norm_ (a' := ?_) ?_ ?_
                rotate_left
                · simp only [putAll, Act.put, List.setIfInBounds_toArray, List.set_cons_zero, List.set_cons_succ]
                  rfl
                refine one_ (i := 6) (N := some 11) #[true, true, true, true, true, true, true, false, false, false, false, false] rfl rfl (by kernel_rfl) (by decide) (fun K hK => ?_)
                refine Conv.V_conv_step (w0 := wn_0_1_3_5) wn_0_1_3_5.heap.size 5 (by rfl) (by rfl) 9 23 (.tmp 10) (by rfl) Tryz.underlying9 Tryz.underlying23 Tryz.underlying5 (textQ o) (by rfl) (by have := HTS.out; omega) (Below.refl _ _) (Nat.le_refl _) ?_
                intro v6 wn_0_1_3_5_6m ho hb hg_ hnew_
                obtain ⟨A6, c6, rfl, hc6, hr6⟩ := RdB.of_V ho
                have HF6 := Lib.hid (show _ ∧ _ from ⟨hc6, hr6⟩)
                have HS := Lib.hid (Stp.of_below (w := w) hb)
                clear ho hb hg_ hnew_ hc6 hr6
                have HB_ := HB
                clear HB
                have HB := Lib.hid (HB_.out.next HS.out)
                refine hK.out _ _ ⟨HB.out.c0, HB.out.c1⟩ (fun hHeld => ?_)
                clear hK K
                refine norm_ (a' := ?_) ?_ ?_
                rotate_left
                · show Act.put _ (some 11) _ = _
                  simp only [Act.put, List.setIfInBounds_toArray, List.set_cons_zero, List.set_cons_succ, i64_w, i32_w]
                  rfl
                exact norm_ (by first | (simp only [putAll, Act.put, List.setIfInBounds_toArray, List.set_cons_zero, List.set_cons_succ]; done) | (simp only [putAll, Act.put, List.setIfInBounds_toArray, List.set_cons_zero, List.set_cons_succ]; rfl)) (hJ0_1_3_5_6 (v0, v1, v3, v5, (A6, c6)) _ ⟨(⟨HF0.out.1, HF0.out.2.elim fun fr hh => HS.out.blk _ _ _ _ hh⟩), (RdB.cells HF1.out HS.out.cell), (RdB.cells HF3.out HS.out.cell), (HF5.out), HF6.out, HB.out⟩)
            · skip
              rintro ⟨v3, v5, v6, v7, v8⟩ wn_3_5_6_7_8 ⟨hf3, hf5, hf6, hf7, hf8, hbase⟩
              have HF3 := Lib.hid hf3
              have HF5 := Lib.hid hf5
              have HF6 := Lib.hid hf6
              have HF7 := Lib.hid hf7
              have HF8 := Lib.hid hf8
              have HB := Lib.hid hbase
              clear hbase hf3 hf5 hf6 hf7 hf8
              have hHeld : (fun w' => w'.cell? ⟨w.heap.size, 0, none⟩ = some (.slice none 0 0) ∧ w'.cell? ⟨w.heap.size, 1, none⟩ = some (.int .i64 o)) wn_3_5_6_7_8 := ⟨HB.out.c0, HB.out.c1⟩
              refine norm_ (a' := ?_) ?_ ?_
              rotate_left
              · simp only [putAll, Act.put, List.setIfInBounds_toArray, List.set_cons_zero, List.set_cons_succ]
                rfl
              refine one_ (i := 0) (N := some 5) #[true, false, true, true, true, true, true, true, true, false, false, false] rfl rfl (by kernel_rfl) (by decide) (fun K hK => ?_)
              refine value_ (w1 := ?_) (v := ?_) (by rfl) rfl ?_ ?_
              rotate_left 2
              · go_simp
                constructor
                · rfl
                · rfl
              have HF0 := Lib.hid (show w.heap.size ≤ wn_3_5_6_7_8.heap.size ∧ ∃ fr, (wn_3_5_6_7_8.alloc (.cells #[.int .u8 99, .int .u8 116] 5)).heap[wn_3_5_6_7_8.heap.size]? = some (.cells #[.int .u8 99, .int .u8 116] 5 fr) from ⟨HB.out.bw.size, _, heap_alloc_new wn_3_5_6_7_8 _⟩)
              have HS : Hid (Stp w wn_3_5_6_7_8 (wn_3_5_6_7_8.alloc (.cells #[.int .u8 99, .int .u8 116] 5))) := Lib.hid (Stp.of_below (below_alloc (Below.refl _ _) _))
              have HB_ := HB
              clear HB
              have HB := Lib.hid (HB_.out.next HS.out)
              refine hK.out _ _ ⟨HB.out.c0, HB.out.c1⟩ (fun hHeld => ?_)
              clear hK K
              refine norm_ (a' := ?_) ?_ ?_
              rotate_left
              · show Act.put _ (some 5) _ = _
                simp only [Act.put, List.setIfInBounds_toArray, List.set_cons_zero, List.set_cons_succ, i64_w, i32_w]
                rfl
              exact norm_ (by first | (simp only [putAll, Act.put, List.setIfInBounds_toArray, List.set_cons_zero, List.set_cons_succ]; done) | (simp only [putAll, Act.put, List.setIfInBounds_toArray, List.set_cons_zero, List.set_cons_succ]; rfl)) (hJ0_3_5_6_7_8 (_, v3, v5, v6, v7, v8) _ ⟨HF0.out, (RdB.cells HF3.out HS.out.cell), (HF5.out), (⟨HF6.out.1, C_cells HF6.out.2 HS.out.cell⟩), (HF7.out), (RdB.cells HF8.out HS.out.cell), HB.out⟩)
          · skip
            rintro ⟨v0, v3, v5, v6, v7⟩ wn_0_3_5_6_7 ⟨hf0, hf3, hf5, hf6, hf7, hbase⟩
            have HF0 := Lib.hid hf0
            have HF3 := Lib.hid hf3
            have HF5 := Lib.hid hf5
            have HF6 := Lib.hid hf6
            have HF7 := Lib.hid hf7
            have HB := Lib.hid hbase
            clear hbase hf0 hf3 hf5 hf6 hf7
            have hHeld : (fun w' => w'.cell? ⟨w.heap.size, 0, none⟩ = some (.slice none 0 0) ∧ w'.cell? ⟨w.heap.size, 1, none⟩ = some (.int .i64 o)) wn_0_3_5_6_7 := ⟨HB.out.c0, HB.out.c1⟩
            refine norm_ (a' := ?_) ?_ ?_
            rotate_left
            · simp only [putAll, Act.put, List.setIfInBounds_toArray, List.set_cons_zero, List.set_cons_succ]
              rfl
            refine two_ (i := 1) (j := 8) (Ni := some 6) (Nj := some 13) #[true, true, true, true, true, true, true, true, false, false, false, false] #[true, false, true, true, true, true, true, true, true, false, false, false] rfl rfl rfl rfl (by kernel_rfl) (by decide) (by decide) (fun K hK => ?_) (fun K hK => ?_)
            · skip
              obtain ⟨hg0, fr0, hh0⟩ := HF0.out
              have hmk := mark_run (P := Tryz.prog) wn_0_3_5_6_7 23 5 _ fr0 v0 2 2 hh0 Tryz.underlying23 Tryz.underlying5
              refine value_ (w1 := ?_) (v := ?_) (by rfl) rfl ?_ ?_
              rotate_left 2
              · go_simp
                constructor
                · rfl
                · rfl
              have HS : Hid (Stp w wn_0_3_5_6_7 (wn_0_3_5_6_7.freeze ⟨v0, 2, none⟩ 1)) := Lib.hid (mark_stp hg0)
              have HF1 : Hid (RdB (wn_0_3_5_6_7.freeze ⟨v0, 2, none⟩ 1) (.slice (some ⟨v0, 0, none⟩) 2 2) [99, 116]) := Lib.hid ((RdB.block [99, 116] (by simp) hh0).cells HS.out.cell)
              clear hg0 hh0 hmk
              have HB_ := HB
              clear HB
              have HB := Lib.hid (HB_.out.next HS.out)
              refine hK.out _ _ ⟨HB.out.c0, HB.out.c1⟩ (fun hHeld => ?_)
              clear hK K
              refine norm_ (a' := ?_) ?_ ?_
              rotate_left
              · show Act.put _ (some 6) _ = _
                simp only [Act.put, List.setIfInBounds_toArray, List.set_cons_zero, List.set_cons_succ, i64_w, i32_w]
                rfl
              exact norm_ (by first | (simp only [putAll, Act.put, List.setIfInBounds_toArray, List.set_cons_zero, List.set_cons_succ]; done) | (simp only [putAll, Act.put, List.setIfInBounds_toArray, List.set_cons_zero, List.set_cons_succ]; rfl)) (hJ0_1_3_5_6_7 (v0, v0, v3, v5, v6, v7) _ ⟨(⟨HF0.out.1, HF0.out.2.elim fun fr hh => HS.out.blk _ _ _ _ hh⟩), HF1.out, (RdB.cells HF3.out HS.out.cell), (HF5.out), (⟨HF6.out.1, C_cells HF6.out.2 HS.out.cell⟩), (HF7.out), HB.out⟩)
            · skip
              refine goes_ Tryz.func11 (by kernel_rfl) rfl #[.int .u32 cs] (by rfl) rfl rfl (by simp only [List.map_toArray, List.map_cons, List.map_nil]; rfl) ?_
              with_reducible refine (num_Put32.calls 9 cs _ _ HP.out).mono ?_
              rintro ee wn_0_3_5_6_7_8m ⟨v8, rfl, ho, hb⟩
              refine ⟨_, rfl, ?_⟩
              have HF8 := Lib.hid (RdB.of_Q ho)
              have HS := Lib.hid (Stp.of_below (w := w) hb)
              clear ho hb
              have HB_ := HB
              clear HB
              have HB := Lib.hid (HB_.out.next HS.out)
              refine hK.out _ _ ⟨HB.out.c0, HB.out.c1⟩ (fun hHeld => ?_)
              clear hK K
              refine norm_ (a' := ?_) ?_ ?_
              rotate_left
              · show Act.put _ (some 13) _ = _
                simp only [Act.put, List.setIfInBounds_toArray, List.set_cons_zero, List.set_cons_succ, i64_w, i32_w]
                rfl
              exact norm_ (by first | (simp only [putAll, Act.put, List.setIfInBounds_toArray, List.set_cons_zero, List.set_cons_succ]; done) | (simp only [putAll, Act.put, List.setIfInBounds_toArray, List.set_cons_zero, List.set_cons_succ]; rfl)) (hJ0_3_5_6_7_8 (v0, v3, v5, v6, v7, v8) _ ⟨(⟨HF0.out.1, HF0.out.2.elim fun fr hh => HS.out.blk _ _ _ _ hh⟩), (RdB.cells HF3.out HS.out.cell), (HF5.out), (⟨HF6.out.1, C_cells HF6.out.2 HS.out.cell⟩), (HF7.out), HF8.out, HB.out⟩)
        · skip
          rintro ⟨v0, v1, v3, v5, v6⟩ wn_0_1_3_5_6 ⟨hf0, hf1, hf3, hf5, hf6, hbase⟩
          have HF0 := Lib.hid hf0
          have HF1 := Lib.hid hf1
          have HF3 := Lib.hid hf3
          have HF5 := Lib.hid hf5
          have HF6 := Lib.hid hf6
          have HB := Lib.hid hbase
          clear hbase hf0 hf1 hf3 hf5 hf6
          have hHeld : (fun w' => w'.cell? ⟨w.heap.size, 0, none⟩ = some (.slice none 0 0) ∧ w'.cell? ⟨w.heap.size, 1, none⟩ = some (.int .i64 o)) wn_0_1_3_5_6 := ⟨HB.out.c0, HB.out.c1⟩
          refine norm_ (a' := ?_) ?_ ?_
          rotate_left
          · simp only [putAll, Act.put, List.setIfInBounds_toArray, List.set_cons_zero, List.set_cons_succ]
            rfl
          refine one_ (i := 7) (N := some 12) #[true, true, true, true, true, true, true, true, false, false, false, false] rfl rfl (by kernel_rfl) (by decide) (fun K hK => ?_)
          refine goes_ Tryz.func12 (by kernel_rfl) rfl #[.slice v6.1 (bytesOf (textQ o)).length v6.2] (by rfl) rfl rfl (by simp only [List.map_toArray, List.map_cons, List.map_nil]; rfl) ?_
          with_reducible refine (crc_Sum.calls v6.1 v6.2 _ cs _ HF6.out.2 HF6.out.1 HC.out).mono ?_
          rintro ee wn_0_1_3_5_6_7m ⟨rfl, hb⟩
          refine ⟨_, rfl, ?_⟩
          have v7 : Unit := ()
          have HF7 := Lib.hid trivial
          have HS := Lib.hid (Stp.of_below (w := w) hb)
          clear hb
          have HB_ := HB
          clear HB
          have HB := Lib.hid (HB_.out.next HS.out)
          refine hK.out _ _ ⟨HB.out.c0, HB.out.c1⟩ (fun hHeld => ?_)
          clear hK K
          refine norm_ (a' := ?_) ?_ ?_
          rotate_left
          · show Act.put _ (some 12) _ = _
            simp only [Act.put, List.setIfInBounds_toArray, List.set_cons_zero, List.set_cons_succ, i64_w, i32_w]
            rfl
          exact norm_ (by first | (simp only [putAll, Act.put, List.setIfInBounds_toArray, List.set_cons_zero, List.set_cons_succ]; done) | (simp only [putAll, Act.put, List.setIfInBounds_toArray, List.set_cons_zero, List.set_cons_succ]; rfl)) (hJ0_1_3_5_6_7 (v0, v1, v3, v5, v6, v7) _ ⟨(⟨HF0.out.1, HF0.out.2.elim fun fr hh => HS.out.blk _ _ _ _ hh⟩), (RdB.cells HF1.out HS.out.cell), (RdB.cells HF3.out HS.out.cell), (HF5.out), (⟨HF6.out.1, C_cells HF6.out.2 HS.out.cell⟩), HF7.out, HB.out⟩)
      · skip
        rintro ⟨v0, v3, v5, v6, v7, v8⟩ wn_0_3_5_6_7_8 ⟨hf0, hf3, hf5, hf6, hf7, hf8, hbase⟩
        have HF0 := Lib.hid hf0
        have HF3 := Lib.hid hf3
        have HF5 := Lib.hid hf5
        have HF6 := Lib.hid hf6
        have HF7 := Lib.hid hf7
        have HF8 := Lib.hid hf8
        have HB := Lib.hid hbase
        clear hbase hf0 hf3 hf5 hf6 hf7 hf8
        have hHeld : (fun w' => w'.cell? ⟨w.heap.size, 0, none⟩ = some (.slice none 0 0) ∧ w'.cell? ⟨w.heap.size, 1, none⟩ = some (.int .i64 o)) wn_0_3_5_6_7_8 := ⟨HB.out.c0, HB.out.c1⟩
        refine norm_ (a' := ?_) ?_ ?_
        rotate_left
        · simp only [putAll, Act.put, List.setIfInBounds_toArray, List.set_cons_zero, List.set_cons_succ]
          rfl
        refine one_ (i := 1) (N := some 6) #[true, true, true, true, true, true, true, true, true, false, false, false] rfl rfl (by kernel_rfl) (by decide) (fun K hK => ?_)
        obtain ⟨hg0, fr0, hh0⟩ := HF0.out
        have hmk := mark_run (P := Tryz.prog) wn_0_3_5_6_7_8 23 5 _ fr0 v0 2 2 hh0 Tryz.underlying23 Tryz.underlying5
        refine value_ (w1 := ?_) (v := ?_) (by rfl) rfl ?_ ?_
        rotate_left 2
        · go_simp
          constructor
          · rfl
          · rfl
        have HS : Hid (Stp w wn_0_3_5_6_7_8 (wn_0_3_5_6_7_8.freeze ⟨v0, 2, none⟩ 1)) := Lib.hid (mark_stp hg0)
        have HF1 : Hid (RdB (wn_0_3_5_6_7_8.freeze ⟨v0, 2, none⟩ 1) (.slice (some ⟨v0, 0, none⟩) 2 2) [99, 116]) := Lib.hid ((RdB.block [99, 116] (by simp) hh0).cells HS.out.cell)
        clear hg0 hh0 hmk
        have HB_ := HB
        clear HB
        have HB := Lib.hid (HB_.out.next HS.out)
        refine hK.out _ _ ⟨HB.out.c0, HB.out.c1⟩ (fun hHeld => ?_)
        clear hK K
        refine norm_ (a' := ?_) ?_ ?_
        rotate_left
        · show Act.put _ (some 6) _ = _
          simp only [Act.put, List.setIfInBounds_toArray, List.set_cons_zero, List.set_cons_succ, i64_w, i32_w]
          rfl
        exact norm_ (by first | (simp only [putAll, Act.put, List.setIfInBounds_toArray, List.set_cons_zero, List.set_cons_succ]; done) | (simp only [putAll, Act.put, List.setIfInBounds_toArray, List.set_cons_zero, List.set_cons_succ]; rfl)) (hJ0_1_3_5_6_7_8 (v0, v0, v3, v5, v6, v7, v8) _ ⟨(⟨HF0.out.1, HF0.out.2.elim fun fr hh => HS.out.blk _ _ _ _ hh⟩), HF1.out, (RdB.cells HF3.out HS.out.cell), (HF5.out), (⟨HF6.out.1, C_cells HF6.out.2 HS.out.cell⟩), (HF7.out), (RdB.cells HF8.out HS.out.cell), HB.out⟩)
    · skip
      rintro ⟨v0, v1, v3, v5, v6, v7⟩ wn_0_1_3_5_6_7 ⟨hf0, hf1, hf3, hf5, hf6, hf7, hbase⟩
      have HF0 := Lib.hid hf0
      have HF1 := Lib.hid hf1
      have HF3 := Lib.hid hf3
      have HF5 := Lib.hid hf5
      have HF6 := Lib.hid hf6
      have HF7 := Lib.hid hf7
      have HB := Lib.hid hbase
      clear hbase hf0 hf1 hf3 hf5 hf6 hf7
      have hHeld : (fun w' => w'.cell? ⟨w.heap.size, 0, none⟩ = some (.slice none 0 0) ∧ w'.cell? ⟨w.heap.size, 1, none⟩ = some (.int .i64 o)) wn_0_1_3_5_6_7 := ⟨HB.out.c0, HB.out.c1⟩
      refine norm_ (a' := ?_) ?_ ?_
      rotate_left
      · simp only [putAll, Act.put, List.setIfInBounds_toArray, List.set_cons_zero, List.set_cons_succ]
        rfl
      refine one_ (i := 8) (N := some 13) #[true, true, true, true, true, true, true, true, true, false, false, false] rfl rfl (by kernel_rfl) (by decide) (fun K hK => ?_)
      refine goes_ Tryz.func11 (by kernel_rfl) rfl #[.int .u32 cs] (by rfl) rfl rfl (by simp only [List.map_toArray, List.map_cons, List.map_nil]; rfl) ?_
      with_reducible refine (num_Put32.calls 9 cs _ _ HP.out).mono ?_
      rintro ee wn_0_1_3_5_6_7_8m ⟨v8, rfl, ho, hb⟩
      refine ⟨_, rfl, ?_⟩
      have HF8 := Lib.hid (RdB.of_Q ho)
      have HS := Lib.hid (Stp.of_below (w := w) hb)
      clear ho hb
      have HB_ := HB
      clear HB
      have HB := Lib.hid (HB_.out.next HS.out)
      refine hK.out _ _ ⟨HB.out.c0, HB.out.c1⟩ (fun hHeld => ?_)
      clear hK K
      refine norm_ (a' := ?_) ?_ ?_
      rotate_left
      · show Act.put _ (some 13) _ = _
        simp only [Act.put, List.setIfInBounds_toArray, List.set_cons_zero, List.set_cons_succ, i64_w, i32_w]
        rfl
      exact norm_ (by first | (simp only [putAll, Act.put, List.setIfInBounds_toArray, List.set_cons_zero, List.set_cons_succ]; done) | (simp only [putAll, Act.put, List.setIfInBounds_toArray, List.set_cons_zero, List.set_cons_succ]; rfl)) (hJ0_1_3_5_6_7_8 (v0, v1, v3, v5, v6, v7, v8) _ ⟨(⟨HF0.out.1, HF0.out.2.elim fun fr hh => HS.out.blk _ _ _ _ hh⟩), (RdB.cells HF1.out HS.out.cell), (RdB.cells HF3.out HS.out.cell), (HF5.out), (⟨HF6.out.1, C_cells HF6.out.2 HS.out.cell⟩), (HF7.out), HF8.out, HB.out⟩)
  rintro ⟨v0, v1, v3, v5, v6, v7, v8⟩ wn_0_1_3_5_6_7_8 ⟨hf0, hf1, hf3, hf5, hf6, hf7, hf8, hbase⟩
  have HF0 := Lib.hid hf0
  have HF1 := Lib.hid hf1
  have HF3 := Lib.hid hf3
  have HF5 := Lib.hid hf5
  have HF6 := Lib.hid hf6
  have HF7 := Lib.hid hf7
  have HF8 := Lib.hid hf8
  have HB := Lib.hid hbase
  clear hbase hf0 hf1 hf3 hf5 hf6 hf7 hf8
  have hHeld : (fun w' => w'.cell? ⟨w.heap.size, 0, none⟩ = some (.slice none 0 0) ∧ w'.cell? ⟨w.heap.size, 1, none⟩ = some (.int .i64 o)) wn_0_1_3_5_6_7_8 := ⟨HB.out.c0, HB.out.c1⟩
  obtain ⟨A1, c1, e1, _, hC1⟩ := HF1.out
  obtain ⟨A3, c3, rfl, _, hC3⟩ := HF3.out
  obtain ⟨A8, c8, rfl, _, hC8⟩ := HF8.out
  have HC1 := Lib.hid (show Kd.C (Kd.int .u8) wn_0_1_3_5_6_7_8 (some ⟨v1, 0, none⟩) 2 [99, 116] by injection e1 with e1; rw [e1]; exact hC1)
  have HC3 := Lib.hid hC3
  have HC8 := Lib.hid hC8
  clear HF0 HF1 HF3 HF8 HF6 HF5 HF7 hC1 hC3 hC8 e1
  generalize wn_0_1_3_5_6_7_8 = w8 at HC1 HC3 HC8 HB hHeld ⊢
  refine norm_ (a' := ?_) ?_ ?_
  rotate_left
  · simp only [putAll, Act.put, List.setIfInBounds_toArray, List.set_cons_zero, List.set_cons_succ]
    rfl
  refine one_ (i := 9) (N := some 14) #[true, true, true, true, true, true, true, true, true, true, false, false] rfl rfl (by kernel_rfl) (by decide) (fun K hK => ?_)
  refine value_ (w1 := ?_) (v := ?_) (by rfl) rfl ?_ ?_
  rotate_left 2
  · go_simp
    constructor
    · rfl
    · rfl
  have HB9 := Lib.hid (HB.out.next (Stp.of_below (below_alloc (Below.refl w8.heap.size w8) (.cells #[.slice (some ⟨v1, 0, none⟩) 2 2, .slice A3 (vput ver).length c3, .slice A8 (sumQ o).length c8] 23))))
  refine hK.out _ _ ⟨HB9.out.c0, HB9.out.c1⟩ (fun hHeld => ?_)
  clear hK K
  refine norm_ (a' := ?_) ?_ ?_
  rotate_left
  · show Act.put _ (some 14) _ = _
    simp only [Act.put, List.setIfInBounds_toArray, List.set_cons_zero, List.set_cons_succ, i64_w, i32_w]
    rfl
  refine one_ (i := 10) (N := some 15) #[true, true, true, true, true, true, true, true, true, true, true, false] rfl rfl (by kernel_rfl) (by decide) (fun K hK => ?_)
  have hcc := concat_calls w8.heap.size [(some ⟨v1, 0, none⟩, 2, [99, 116]), (A3, c3, vput ver), (A8, c8, sumQ o)] (w8.alloc (.cells #[.slice (some ⟨v1, 0, none⟩) 2 2, .slice A3 (vput ver).length c3, .slice A8 (sumQ o).length c8] 23)) (heap_alloc_new w8 _) (by intro r hr; simp only [List.mem_cons, List.not_mem_nil, or_false] at hr; rcases hr with rfl | rfl | rfl; exact Kd.C_alloc HC1.out _; exact Kd.C_alloc HC3.out _; exact Kd.C_alloc HC8.out _) (by simp) (by simp [flatR]) (by have := HVL.out; simp [flatR, sumQ_len]; omega)
  change Calls _ _ #[.slice (some ⟨w8.heap.size, 0, none⟩) 3 3] _ _ at hcc
  refine goes_ Tryz.func19 (by kernel_rfl) rfl #[.slice (some ⟨w8.heap.size, 0, none⟩) 3 3] (by rfl) rfl rfl (by simp only [List.map_toArray, List.map_cons, List.map_nil]; rfl) ?_
  with_reducible refine (hcc).mono ?_
  rintro ee w9 ⟨v9, rfl, ho, hb⟩
  refine ⟨_, rfl, ?_⟩
  have hfl : flatR [(some ⟨v1, 0, none⟩, 2, [99, 116]), (A3, c3, vput ver), (A8, c8, sumQ o)] = [99, 116] ++ (vput ver ++ sumQ o) := by simp [flatR]
  rw [hfl] at ho
  have HO9 := Lib.hid (Kd.R_lower ho HB9.out.bw.size)
  have HB10 := Lib.hid (HB9.out.next (Stp.of_below hb))
  clear ho hb hcc hfl
  refine hK.out _ _ ⟨HB10.out.c0, HB10.out.c1⟩ (fun hHeld => ?_)
  clear hK K
  refine norm_ (a' := ?_) ?_ ?_
  rotate_left
  · show Act.put _ (some 15) _ = _
    simp only [Act.put, List.setIfInBounds_toArray, List.set_cons_zero, List.set_cons_succ, i64_w, i32_w]
    rfl
  refine pure_ (i := 11) (N := some 4) (v := ?_) (a' := ?_) #[true, true, true, true, true, true, true, true, true, true, true, true] rfl rfl (by kernel_rfl) (fun _ _ _ h => h) (Or.inl ⟨by rfl, ?_⟩) ?_ ?_
  rotate_left
  · intro w'
    go_simp
    with_reducible rfl
  rotate_left
  · simp only [Act.put, List.setIfInBounds_toArray, List.set_cons_zero, List.set_cons_succ, i64_w, i32_w]
    rfl
  refine done_ (by kernel_rfl) ?_
  go_wp2
  go_ret
  exact ⟨_, rfl, HO9.out, HB10.out.bw⟩

end Go.Proofs.YtcgpbcpgopmfcaaGreatDoor.Tok
