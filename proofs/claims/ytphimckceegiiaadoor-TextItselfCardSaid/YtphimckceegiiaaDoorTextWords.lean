/- Words, by hand: a closure that appends to a row that it shares. -/
import Derived.Test.YtphimckceegiiaaDoorTextRange
namespace Go.Proofs.YtphimckceegiiaaDoor.Text
open Go.RowKit Go.Proofs.YtphimckceegiiaaDoorW.PrintWords Go.Proofs.YtphimckceegiiaaDoorW.PrintLast Go.Proofs.YtphimckceegiiaaDoorW.PrintMore Go.Proofs.YtphimckceegiiaaDoor.Math Go.Proofs.YtphimckceegiiaaDoor.Runes
set_option linter.unusedVariables false
set_option linter.unusedSimpArgs false

theorem info_str : (Tryd.prog.info? 9).map (fun i => (i.zero, i.size, i.bytes)) = some (some (.string ⟨#[]⟩), 1, 16) := by kernel_rfl

/-- What the closure shares: the text, the words, where the next one begins. -/
structure WSt (w wr : World) (n : Nat) (s : ByteArray) (v : Value) (acc : List ByteArray) (b : Nat) : Prop where
  bs : wr.heap[n]? = some (.cells #[.string s] 9 (0, 0))
  bo : wr.heap[n + 1]? = some (.cells #[v] 34 (0, 0))
  bb : wr.heap[n + 2]? = some (.cells #[.int .i64 b] 3 (0, 0))
  r : Kd.R Kd.string 9 wr (n + 4) (fun _ => True) v acc
  bw : Below w.heap.size w wr
  n0 : w.heap.size ≤ n
  n3 : n + 4 ≤ wr.heap.size

set_option maxHeartbeats 1000000 in
theorem end_calls (w wr : World) (n : Nat) (s : ByteArray) (v : Value) (acc : List ByteArray) (b i : Nat) (h : WSt w wr n s v acc b) (hi : i ≤ s.size) (hs : s.size ≤ 1000000) (hal : acc.length ≤ 1000000) :
    Calls Tryd.prog 32 #[.int .i64 (i : Int), .pointer (some ⟨n + 2, 0, none⟩), .pointer (some ⟨n + 1, 0, none⟩), .pointer (some ⟨n, 0, none⟩)] wr fun e w' => e = .returned (.tuple #[]) ∧ ∃ v', WSt w w' n s v' (if b < i then acc ++ [s.extract b i] else acc) b ∧ w'.heap[n + 3]? = wr.heap[n + 3]? := by
  have hbb : wr.cell? ⟨n + 2, 0, none⟩ = some (.int .i64 b) := (blk_cell h.bb 0).trans rfl
  by_cases hlt : b < i
  · rw [if_pos hlt]
    have hd : decide ((b : Int) < (i : Int)) = true := decide_eq_true (by omega)
    have hdN : decide (b < i) = true := decide_eq_true hlt
    have q0 : (0 : Int) ≤ (b : Int) := by omega
    have q1 : (b : Int) ≤ (i : Int) := by omega
    have q2 : (i : Int) ≤ (s.size : Int) := by omega
    obtain ⟨A, c, rfl⟩ := Kd.R_slice h.r
    have k1 : wr.drew.cell? ⟨n + 1, 0, none⟩ = some (.slice A acc.length c) := (blk_cell (blk_drew h.bo) 0).trans rfl
    have k2 : wr.drew.cell? ⟨n, 0, none⟩ = some (.string s) := (blk_cell (blk_drew h.bs) 0).trans rfl
    have k3 : wr.drew.cell? ⟨n + 2, 0, none⟩ = some (.int .i64 b) := (blk_cell (blk_drew h.bb) 0).trans rfl
    have HH := Lib.hid h
    have HAl := Lib.hid hal
    have hd0 : Below wr.heap.size wr wr.drew := (Below.refl _ _).drew
    clear h hlt hal
    go_enter Tryd.func32, Tryd.ntmps32
    go_wp2
    refine start_ (n := 8) (S := fun w' => w'.cell? ⟨n + 1, 0, none⟩ = some (.slice A acc.length c) ∧ w'.cell? ⟨n, 0, none⟩ = some (.string s) ∧ w'.cell? ⟨n + 2, 0, none⟩ = some (.int .i64 b)) (ds := [7]) #[false, false, false, false, false, false, false, false] (by kernel_rfl) rfl rfl ⟨k1, k2, k3⟩ (fun hHeld => ?_)
    generalize wr.drew = w5 at k1 k2 k3 hd0 hHeld ⊢
    have HD := Lib.hid hd0
    clear k1 k2 k3 hd0
    refine pure_ (i := 3) (N := some 11) (v := ?_) (a' := ?_) #[false, false, false, true, false, false, false, false] rfl rfl (by kernel_rfl) (fun _ _ _ h => h) (Or.inl ⟨by rfl, ?_⟩) ?_ ?_
    rotate_left
    · intro w'
      go_simp
      with_reducible rfl
    rotate_left
    · simp only [Act.put, List.setIfInBounds_toArray, List.set_cons_zero, List.set_cons_succ, i64_w, i32_w]
      rfl
    refine take_ (i := 0) (N := some 8) (v := ?_) (a' := ?_) #[true, false, false, true, false, false, false, false] rfl rfl (by kernel_rfl) (fun _ _ _ h => h) (Or.inl ⟨by rfl, ?_⟩) hHeld ?_ ?_
    rotate_left
    · rintro w' ⟨s0, s1, s2⟩
      go_simp
      with_reducible rfl
    rotate_left
    · simp only [Act.put, List.setIfInBounds_toArray, List.set_cons_zero, List.set_cons_succ, i64_w, i32_w]
      rfl
    refine take_ (i := 1) (N := some 9) (v := ?_) (a' := ?_) #[true, true, false, true, false, false, false, false] rfl rfl (by kernel_rfl) (fun _ _ _ h => h) (Or.inl ⟨by rfl, ?_⟩) hHeld ?_ ?_
    rotate_left
    · rintro w' ⟨s0, s1, s2⟩
      go_simp
      with_reducible rfl
    rotate_left
    · simp only [Act.put, List.setIfInBounds_toArray, List.set_cons_zero, List.set_cons_succ, i64_w, i32_w]
      rfl
    refine take_ (i := 2) (N := some 10) (v := ?_) (a' := ?_) #[true, true, true, true, false, false, false, false] rfl rfl (by kernel_rfl) (fun _ _ _ h => h) (Or.inl ⟨by rfl, ?_⟩) hHeld ?_ ?_
    rotate_left
    · rintro w' ⟨s0, s1, s2⟩
      go_simp
      with_reducible rfl
    rotate_left
    · simp only [Act.put, List.setIfInBounds_toArray, List.set_cons_zero, List.set_cons_succ, i64_w, i32_w]
      rfl
    refine pure_ (i := 4) (N := some 12) (v := ?_) (a' := ?_) #[true, true, true, true, true, false, false, false] rfl rfl (by kernel_rfl) (fun _ _ _ h => h) (Or.inl ⟨by rfl, ?_⟩) ?_ ?_
    rotate_left
    · intro w'
      go_simp
      with_reducible rfl
    rotate_left
    · simp only [Act.put, List.setIfInBounds_toArray, List.set_cons_zero, List.set_cons_succ, i64_w, i32_w]
      rfl
    refine one_ (i := 5) (N := some 13) #[true, true, true, true, true, true, false, false] rfl rfl (by kernel_rfl) (by decide) (fun K hK => ?_)
    refine Kd.R_lit_step Kd.string (w0 := wr) (n + 4) 9 ?hg (N := 13) ?hd (xs := [s.extract b i]) (inner := [.string (s.extract b i)]) (ok := fun _ => True) (okp := fun _ => True) ?hr ?hp (fun _ hk => hk) trivial (HD.out.mono HH.out.n3) (Nat.le_trans HH.out.n3 HD.out.size) (by simp) ?_; (case hd => rfl); (case hg => rfl); (case hr => first | (go_simp; done) | (go_simp; rfl)); (case hp => exact (Reps.one (show Kd.M Kd.string _ _ _ (s.extract b i) [.string (s.extract b i)] from rfl) (Reps.none _ _)))
    intro v6 w6 ho hb hg_ hnew_
    clear hnew_
    obtain ⟨A6, c6, rfl⟩ := Kd.R_slice ho
    have HO6 := Lib.hid (Kd.R_reads' ho).2.2
    have HB6 := Lib.hid hb
    have HR6 := Lib.hid (Kd.R_grown2 (Kd.R_below HH.out.r HD.out) rfl hg_ (fun _ h => by cases h))
    have HO := Lib.hid ((hb.block (n + 1) (by omega)).trans HH.out.bo)
    have HSs := Lib.hid ((hb.block n (by omega)).trans HH.out.bs)
    have HBb := Lib.hid ((hb.block (n + 2) (by omega)).trans HH.out.bb)
    clear ho hb hg_
    refine hK.out _ _ ⟨(blk_cell HO.out 0).trans rfl, (blk_cell HSs.out 0).trans rfl, (blk_cell HBb.out 0).trans rfl⟩ (fun hHeld => ?_)
    clear hK K
    refine norm_ (a' := ?_) ?_ ?_
    rotate_left
    · show Act.put _ (some 13) _ = _
      simp only [Act.put, List.setIfInBounds_toArray, List.set_cons_zero, List.set_cons_succ, i64_w, i32_w]
      rfl
    refine one_ (i := 6) (N := some 14) #[true, true, true, true, true, true, true, false] rfl rfl (by kernel_rfl) (by decide) (fun K hK => ?_)
    refine Kd.R_append_rows_step Kd.string (w0 := wr) (n + 4) (by rfl) (.tmp 8) (.tmp 13) 34 9 (.string ⟨#[]⟩) 16 (by rfl) Tryd.underlying34 info_str rfl (by decide) (by omega) _ acc [s.extract b i] A6 _ c6 (fun _ => True) (fun _ => False) (by rfl) (by rfl) HR6.out HO6.out (fun _ _ h => h) (fun _ h => h.elim) (fun _ _ => trivial) HB6.out (Nat.le_trans HH.out.n3 HB6.out.size) (by have := HAl.out; simp; omega) ?_
    intro v7 w7 ho hb hg_ hnew_
    clear hg_ hnew_
    obtain ⟨A7, c7, rfl⟩ := Kd.R_slice ho
    have HR7 := Lib.hid ho
    have HB7 := Lib.hid hb
    have HO7 := Lib.hid ((hb.block (n + 1) (by omega)).trans HH.out.bo)
    have HS7 := Lib.hid ((hb.block n (by omega)).trans HH.out.bs)
    have HBb7 := Lib.hid ((hb.block (n + 2) (by omega)).trans HH.out.bb)
    have F7 := blk_frozen HO7.out 0
    clear ho hb
    refine hK.out _ _ ⟨(blk_cell HO7.out 0).trans rfl, (blk_cell HS7.out 0).trans rfl, (blk_cell HBb7.out 0).trans rfl⟩ (fun hHeld => ?_)
    clear hK K
    refine norm_ (a' := ?_) ?_ ?_
    rotate_left
    · show Act.put _ (some 14) _ = _
      simp only [Act.put, List.setIfInBounds_toArray, List.set_cons_zero, List.set_cons_succ, i64_w, i32_w]
      rfl
    refine last_ (i := 7) (N := none) #[true, true, true, true, true, true, true, true] rfl rfl (by kernel_rfl) (by decide) (fun K hK => ?_)
    refine skip_ (w1 := ?_) (by rfl) rfl ?_ ?_
    rotate_left
    · go_simp
      rfl
    refine hK.out _ _ ?_
    clear hK K
    refine done_ (by kernel_rfl) ?_
    have hn := HH.out.n3
    have hst : WSt w (w7.setCell ⟨n + 1, 0, none⟩ (.slice A7 (acc ++ [s.extract b i]).length c7)) n s (.slice A7 (acc ++ [s.extract b i]).length c7) (acc ++ [s.extract b i]) b := by
      refine ⟨?_, ?_, ?_, ?_, ?_, HH.out.n0, ?_⟩
      · rw [Below.heap_setCell _ _ _ _ (by simp)]; exact HS7.out
      · have := blk_set HO7.out 0 (.slice A7 (acc ++ [s.extract b i]).length c7)
        simpa using this
      · rw [Below.heap_setCell _ _ _ _ (by simp)]; exact HBb7.out
      · exact Kd.R_mono (Kd.R_far (p := ⟨n + 1, 0, none⟩) (Kd.R_bound HR7.out) (fun k hk => by have := hk.2.1; simp; omega) _) (fun _ _ => trivial)
      · exact (HH.out.bw.trans (HB7.out.mono (by have := HH.out.n0; omega))).setCell (by have := HH.out.n0; simp; omega) _
      · have := HB7.out.size; simp; omega
    have hit : (w7.setCell ⟨n + 1, 0, none⟩ (.slice A7 (acc ++ [s.extract b i]).length c7)).heap[n + 3]? = wr.heap[n + 3]? := by
      rw [Below.heap_setCell _ _ _ _ (by simp)]
      exact HB7.out.block (n + 3) (by omega)
    rw [show (acc ++ [s.extract b i]).length = acc.length + 1 by simp] at hst hit
    have HSt := Lib.hid hst
    have HIt := Lib.hid hit
    clear hst hit
    (try go_wp2)
    go_end0
    exact ⟨rfl, _, HSt.out, HIt.out⟩
  · rw [if_neg hlt]
    have hd : decide ((b : Int) < (i : Int)) = false := decide_eq_false (by omega)
    have hdN : decide (b < i) = false := decide_eq_false hlt
    have HH := Lib.hid h
    clear h hlt
    go_enter Tryd.func32, Tryd.ntmps32
    go_wp2
    go_end0
    exact ⟨rfl, _, HH.out, rfl⟩

def blankN (r : Nat) : Bool := r == 32 || r == 9 || r == 10 || r == 13
/-- The words, from the runes' places on, of which one may have begun. -/
def wordsF (s : ByteArray) : List Nat → Nat → List ByteArray
  | [], b => if b < s.size then [s.extract b s.size] else []
  | i :: t, b => if blankN (rn s i) = true then (if b < i then s.extract b i :: wordsF s t (i + 1) else wordsF s t (i + 1)) else wordsF s t b

theorem blank_calls (r : Nat) (w : World) :
    Calls Tryd.prog 14 #[.int .i32 (r : Int)] w fun e w' => e = .returned (.bool (blankN r)) ∧ w = w' := by
  by_cases h1 : r = 32
  · subst h1
    go_enter Tryd.func14, Tryd.ntmps14
    go_wp2
    go_ret
    exact ⟨rfl, rfl⟩
  have b1 : ((r : Int) == 32) = false := beq_eq_false_iff_ne.2 (by omega)
  by_cases h2 : r = 9
  · subst h2
    go_enter Tryd.func14, Tryd.ntmps14
    go_wp2
    go_ret
    exact ⟨rfl, rfl⟩
  have b2 : ((r : Int) == 9) = false := beq_eq_false_iff_ne.2 (by omega)
  by_cases h3 : r = 10
  · subst h3
    go_enter Tryd.func14, Tryd.ntmps14
    go_wp2
    go_ret
    exact ⟨rfl, rfl⟩
  have b3 : ((r : Int) == 10) = false := beq_eq_false_iff_ne.2 (by omega)
  by_cases h4 : r = 13
  · subst h4
    go_enter Tryd.func14, Tryd.ntmps14
    go_wp2
    go_ret
    exact ⟨rfl, rfl⟩
  have b4 : ((r : Int) == 13) = false := beq_eq_false_iff_ne.2 (by omega)
  have HQ := Lib.hid (show blankN r = false by unfold blankN; simp [h1, h2, h3, h4])
  clear h1 h2 h3 h4
  go_enter Tryd.func14, Tryd.ntmps14
  go_wp2
  go_ret
  exact ⟨by rw [HQ.out]; rfl, rfl⟩

theorem WSt.iter {w wr : World} {n : Nat} {s : ByteArray} {v : Value} {acc : List ByteArray} {b : Nat} (h : WSt w wr n s v acc b) (q : Nat) : WSt w (wr.iterAt (n + 3) s q) n s v acc b := by
  refine ⟨?_, ?_, ?_, R_iterAt h.r (by omega), Lib.below_iterAt h.bw (by have := h.n0; omega) s q, h.n0, by rw [Lib.iterAt_size]; exact h.n3⟩
  · rw [Lib.iterAt_other _ _ _ _ _ (by omega)]; exact h.bs
  · rw [Lib.iterAt_other _ _ _ _ _ (by omega)]; exact h.bo
  · rw [Lib.iterAt_other _ _ _ _ _ (by omega)]; exact h.bb
theorem WSt.setb {w wr : World} {n : Nat} {s : ByteArray} {v : Value} {acc : List ByteArray} {b : Nat} (h : WSt w wr n s v acc b) (c : Nat) : WSt w (wr.setCell ⟨n + 2, 0, none⟩ (.int .i64 c)) n s v acc c := by
  refine ⟨?_, ?_, ?_, ?_, h.bw.setCell (by have := h.n0; simp; omega) _, h.n0, by have := h.n3; simpa using this⟩
  · rw [Below.heap_setCell _ _ _ _ (by simp)]; exact h.bs
  · rw [Below.heap_setCell _ _ _ _ (by simp)]; exact h.bo
  · have := blk_set h.bb 0 (.int .i64 c)
    simpa using this
  · exact Kd.R_mono (Kd.R_far (p := ⟨n + 2, 0, none⟩) (Kd.R_bound h.r) (fun k hk => by have := hk.2.1; simp; omega) _) (fun _ _ => trivial)

set_option maxHeartbeats 2000000 in
theorem words_calls (s : ByteArray) (w : World) (hs : s.size ≤ 1000000) :
    Calls Tryd.prog 20 #[.string s] w fun e w' => ∃ v, e = .returned v ∧ Kd.R Kd.string 9 w' w.heap.size (fun _ => True) v (wordsF s (from_ s 0) 0) ∧ Below w.heap.size w w' := by
  have hmf : ∀ (fn : Fn) (first cap : Array Value) (w : World), (Instr.makeFunc fn first cap).run Tryd.prog w = .ok (.func fn first cap) w := fun _ _ _ _ => rfl
  have eg : ∀ args w, (callFunc 32 args).run Tryd.prog w = .ok (.enter 32 args) w := fun args w => enters_ Tryd.func32 (by kernel_rfl) rfl args w
  have HSs := Lib.hid hs
  have h0 : WSt w ((((w.alloc (.cells #[.string s] 9)).alloc (.cells #[.slice none 0 0] 34)).alloc (.cells #[.int .i64 0] 3)).iter s 0) w.heap.size s (.slice none 0 0) [] 0 := by
    have e1 := heap_alloc_new w (.cells #[.string s] 9)
    have e2 := heap_alloc_new (w.alloc (.cells #[.string s] 9)) (.cells #[.slice none 0 0] 34)
    have e3 := heap_alloc_new ((w.alloc (.cells #[.string s] 9)).alloc (.cells #[.slice none 0 0] 34)) (.cells #[.int .i64 0] 3)
    have s1 : (w.alloc (.cells #[.string s] 9)).heap.size = w.heap.size + 1 := by simp
    have s2 : ((w.alloc (.cells #[.string s] 9)).alloc (.cells #[.slice none 0 0] 34)).heap.size = w.heap.size + 2 := by simp
    rw [s1] at e2
    rw [s2] at e3
    have e1' := blk_alloc (blk_alloc (blk_alloc e1 (.cells #[.slice none 0 0] 34)) (.cells #[.int .i64 0] 3)) (.stringIter s 0)
    have e2' := blk_alloc (blk_alloc e2 (.cells #[.int .i64 0] 3)) (.stringIter s 0)
    have e3' := blk_alloc e3 (.stringIter s 0)
    refine ⟨e1', ?_, ?_, Kd.R_nil _ _ _ _ _, below_alloc (below_alloc (below_alloc (below_alloc (Below.refl _ _) _) _) _) _, Nat.le_refl _, ?_⟩
    · exact e2'
    · exact e3'
    · have : ((((w.alloc (.cells #[.string s] 9)).alloc (.cells #[.slice none 0 0] 34)).alloc (.cells #[.int .i64 0] 3)).iter s 0).heap.size = w.heap.size + 4 := by
        have : ((((w.alloc (.cells #[.string s] 9)).alloc (.cells #[.slice none 0 0] 34)).alloc (.cells #[.int .i64 0] 3)).alloc (.stringIter s 0)).heap.size = w.heap.size + 4 := by simp
        exact this
      omega
  have i0 : ((((w.alloc (.cells #[.string s] 9)).alloc (.cells #[.slice none 0 0] 34)).alloc (.cells #[.int .i64 0] 3)).iter s 0).heap[w.heap.size + 3]? = some (.stringIter s 0) := by
    have := World.iter_heap (((w.alloc (.cells #[.string s] 9)).alloc (.cells #[.slice none 0 0] 34)).alloc (.cells #[.int .i64 0] 3)) s 0
    simpa using this
  have H0 := Lib.hid h0
  have I0 := Lib.hid i0
  clear hs h0 i0
  go_enter Tryd.func20, Tryd.ntmps20
  go_wp2
  rw [show w.heap.size + 1 + 1 + 1 = w.heap.size + 3 from rfl, show w.heap.size + 1 + 1 = w.heap.size + 2 from rfl]
  go_loopw [] (fun wr => ∃ (p b : Nat) (v : Value) (acc : List ByteArray), p ≤ s.size ∧ b ≤ p ∧ acc.length ≤ p ∧ Hid (WSt w wr w.heap.size s v acc b) ∧ Hid (wr.heap[w.heap.size + 3]? = some (.stringIter s p)) ∧ Hid (acc ++ wordsF s (from_ s p) b = wordsF s (from_ s 0) 0)) (fun wr => s.size - wr.iterPos (w.heap.size + 3))
  case atStart => exact ⟨0, 0, _, [], by omega, by omega, by simp, H0, I0, Lib.hid rfl⟩
  case round =>
    clear H0 I0
    obtain ⟨p, b, v, acc, hp, hbp, hal, HW, HI, HA⟩ := hrel
    have HPos := Lib.hid (show wr.iterPos (w.heap.size + 3) = p by simp [World.iterPos, HI.out])
    by_cases hlt : p < s.size
    · have hnx : ∀ ty, (Instr.next (.pointer (some ⟨w.heap.size + 3, 0, none⟩)) true ty).run Tryd.prog wr = _ := fun ty => Lib.run_next_any_at wr (w.heap.size + 3) s p ty HI.out hlt
      have HS := Lib.hid (HW.out.iter (p + wd s p))
      have HD := Lib.hid (dec_bounds s p hlt)
      have HF := Lib.hid (from_lt hlt)
      have HI2 := Lib.hid (Lib.iterAt_heap wr (w.heap.size + 3) s p (p + wd s p) HI.out)
      change ∀ ty, (Instr.next (.pointer (some ⟨w.heap.size + 3, 0, none⟩)) true ty).run Tryd.prog wr = .ok (.tuple #[.bool true, .int .i64 p, .int .i32 (rn s p)]) (wr.iterAt (w.heap.size + 3) s (p + wd s p)) at hnx
      generalize wr.iterAt (w.heap.size + 3) s (p + wd s p) = wr2 at *
      go_wp2_with fail
      refine (blank_calls (rn s p) _).mono ?_
      rintro e w3 ⟨rfl, rfl⟩
      cases hbl : blankN (rn s p) with
      | false =>
        have HWF := Lib.hid (show wordsF s (from_ s p) b = wordsF s (from_ s (p + wd s p)) b by rw [HF.out, wordsF, if_neg (by rw [hbl]; simp)])
        clear hbl
        go_wp2
        go_roundw
        case rel => exact ⟨p + wd s p, b, v, acc, HD.out.2.1, by omega, by omega, HS, HI2, Lib.hid (by rw [← HA.out, HWF.out])⟩
        case measure =>
          rw [HPos.out, show wr2.iterPos (w.heap.size + 3) = p + wd s p by simp [World.iterPos, HI2.out]]
          have := HD.out
          omega
      | true =>
        have HWF := Lib.hid (show acc ++ wordsF s (from_ s p) b = (if b < p then acc ++ [s.extract b p] else acc) ++ wordsF s (from_ s (p + wd s p)) (p + 1) by
          rw [HF.out, wordsF, if_pos hbl]
          by_cases hb : b < p
          · rw [if_pos hb, if_pos hb]; simp
          · rw [if_neg hb, if_neg hb])
        clear hbl
        go_wp2_with fail
        refine (end_calls w wr2 w.heap.size s v acc b p HS.out (by omega) HSs.out (by have := HSs.out; omega)).mono ?_
        rintro e w3 ⟨rfl, v3, hw3, hi3⟩
        rw [HI2.out] at hi3
        have HI3 := Lib.hid hi3
        obtain ⟨acc3, hacc3⟩ : ∃ acc3, acc3 = (if b < p then acc ++ [s.extract b p] else acc) := ⟨_, rfl⟩
        rw [← hacc3] at hw3
        have HA3 := Lib.hid (show acc3 ++ wordsF s (from_ s (p + wd s p)) (p + 1) = wordsF s (from_ s 0) 0 by rw [← HA.out, HWF.out, hacc3])
        have HL3 := Lib.hid (show acc3.length ≤ p + 1 by
          rw [hacc3]; split
          · simp; omega
          · omega)
        have m1 : w3.cell? ⟨w.heap.size + 2, 0, none⟩ = some (.int .i64 b) := (blk_cell hw3.bb 0).trans rfl
        have m2 := blk_frozen hw3.bb 0
        have HW3 := Lib.hid (hw3.setb (p + 1))
        have HI4 := Lib.hid (show (w3.setCell ⟨w.heap.size + 2, 0, none⟩ (.int .i64 ((p + 1 : Nat) : Int))).heap[w.heap.size + 3]? = some (.stringIter s (p + wd s p)) by rw [Below.heap_setCell _ _ _ _ (by simp)]; exact hi3)
        have hsum : (p : Int) ≤ 1000000 := by have := HSs.out; omega
        clear hw3 hi3 hacc3
        go_wp2
        go_roundw
        case rel => exact ⟨p + wd s p, p + 1, v3, acc3, HD.out.2.1, by have := HD.out.1; omega, by have := HL3.out; have := HD.out.1; omega, HW3, HI4, HA3⟩
        case measure =>
          have hi5 := HI4.out
          rw [HPos.out]
          simp only [World.iterPos]
          rw [show ((p + 1 : Nat) : Int) = (p : Int) + 1 from rfl] at hi5
          rw [hi5]
          have := HD.out
          simp
          omega
    · have hnx : ∀ ty, (Instr.next (.pointer (some ⟨w.heap.size + 3, 0, none⟩)) true ty).run Tryd.prog wr = _ := fun ty => Lib.run_next_end_at wr (w.heap.size + 3) s p ty HI.out hlt
      have HWF := Lib.hid (show (if b < s.size then acc ++ [s.extract b s.size] else acc) = wordsF s (from_ s 0) 0 by
        rw [← HA.out, from_ge hlt, wordsF]
        by_cases hb : b < s.size
        · rw [if_pos hb, if_pos hb]
        · rw [if_neg hb, if_neg hb, List.append_nil])
      have k1 : wr.cell? ⟨w.heap.size, 0, none⟩ = some (.string s) := (blk_cell HW.out.bs 0).trans rfl
      go_wp2_with fail
      refine (end_calls w wr w.heap.size s v acc b s.size HW.out (Nat.le_refl _) HSs.out (by have := HSs.out; omega)).mono ?_
      rintro e w3 ⟨rfl, v3, hw3, _⟩
      rw [HWF.out] at hw3
      have k2 : w3.cell? ⟨w.heap.size + 1, 0, none⟩ = some v3 := (blk_cell hw3.bo 0).trans rfl
      have HW3 := Lib.hid hw3
      obtain ⟨A3, c3, rfl⟩ := Kd.R_slice hw3.r
      clear hw3
      go_wp2
      go_ret
      exact ⟨_, rfl, Kd.R_lower HW3.out.r (Nat.le_add_right _ _), HW3.out.bw⟩

end Go.Proofs.YtphimckceegiiaaDoor.Text
