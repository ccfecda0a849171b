/- trace.Longest (chapter 26), by hand. -/
import Derived.Test.YtoigebnhnkdbbaaTrDelf
namespace Go.Proofs.Ytoigebnhnkdbbaa.Tr
open Go.RowKit Go.Proofs.YtoigebnhnkdbbaaW.PrintWords Go.Proofs.YtoigebnhnkdbbaaW.PrintLast Go.Proofs.YtoigebnhnkdbbaaW.PrintMore Go.Proofs.Ytoigebnhnkdbbaa.Math Go.Proofs.Ytoigebnhnkdbbaa.PAll Go.Proofs.Ytoigebnhnkdbbaa.MapG
set_option linter.unusedVariables false
set_option linter.unusedSimpArgs false

def slLen : Value → Nat | .slice _ n _ => n | _ => 0
/-- Where the way has come to, plainly. -/
structure Wy (C out c : List Sp) (m : Nat) : Prop where
  way : Way C out
  nz : ∀ x, out.getLast? = some x → x.id ≠ 0
  nx : c = nextOf C out
  all : out ++ wayF C m c = long C
  sum : m + out.length = C.length + 1
theorem Wy.start (C : List Sp) : Wy C [] (rootsOf C) (C.length + 1) := ⟨Way.nil C, (fun x h => by cases h), rfl, rfl, rfl⟩
theorem Wy.sub {C out c : List Sp} {m : Nat} (h : Wy C out c m) : ∀ s ∈ c, s ∈ C := by
  intro s hs
  rw [h.nx] at hs
  unfold nextOf at hs
  split at hs
  · exact (List.mem_filter.1 hs).1
  · exact (kids_mem.1 hs).1
theorem Wy.clen {C out c : List Sp} {m : Nat} (h : Wy C out c m) : c.length ≤ C.length := by
  rw [h.nx]
  unfold nextOf
  split
  · exact List.length_filter_le _ _
  · exact List.length_filter_le _ _
theorem Wy.none {C out c : List Sp} {m : Nat} (h : Wy C out c m) (hl : lastS c = Option.none) : out = long C := by
  have := h.all
  rwa [wayF_none (lastS_none.1 hl), List.append_nil] at this
theorem Wy.pos {C out c : List Sp} {m : Nat} (hC : Dis C) (h : Wy C out c m) : ∃ m', m = m' + 1 := ⟨m - 1, by have := h.way.len hC; have := h.sum; omega⟩
theorem Wy.add {C out c : List Sp} {m : Nat} (h : Wy C out c m) {s : Sp} (hl : lastS c = some s) : Way C (out ++ [s]) := h.way.add (by rw [← h.nx]; exact (lastS_facts hl).1) h.nz
theorem Wy.stop {C out c : List Sp} {m : Nat} (hC : Dis C) (h : Wy C out c m) {s : Sp} (hl : lastS c = some s) (h0 : s.id = 0) : out ++ [s] = long C := by
  obtain ⟨m', rfl⟩ := h.pos hC
  have := h.all
  rwa [wayF_some hl, if_pos h0] at this
theorem Wy.next {C out c : List Sp} {m : Nat} (hC : Dis C) (h : Wy C out c m) {s : Sp} (hl : lastS c = some s) (h0 : s.id ≠ 0) : ∃ m', Wy C (out ++ [s]) (kidsOf C s.id) m' := by
  obtain ⟨m', rfl⟩ := h.pos hC
  refine ⟨m', h.add hl, fun x hx => ?_, (nextOf_snoc C out s).symm, ?_, ?_⟩
  · rw [List.getLast?_append] at hx
    simp at hx
    rw [← hx]
    exact h0
  · have := h.all
    rw [wayF_some hl, if_neg h0] at this
    rw [← this, List.append_assoc]
    rfl
  · have := h.sum
    rw [List.length_append, List.length_singleton]
    omega
/-- .. and in the world: b the block of the one told last. -/
structure Lo (w wr : World) (n : Nat) (U C : List Sp) (v : Value) (g1 g2 : Nat) (vo : Value) (out : List Sp) (b : Nat) (s : Sp) : Prop where
  bw : Below w.heap.size w wr
  n0 : w.heap.size ≤ n
  fc : Fc w.heap.size n wr U C v g1 g2
  bn : n + 1 ≤ b
  blk : wr.heap[b]? = some (.cells (encS s).toArray 38 (0, 0))
  row : Kd.R kS 38 wr (n + 1) (fun k => k ≠ b) vo out
theorem Lo.next {w wr w1 : World} {n : Nat} {U C : List Sp} {v : Value} {g1 g2 : Nat} {vo : Value} {out : List Sp} {b : Nat} {s : Sp} (h : Lo w wr n U C v g1 g2 vo out b s) (hb : Below wr.heap.size wr w1) : Lo w w1 n U C v g1 g2 vo out b s :=
  ⟨below_step h.bw hb, h.n0, h.fc.next hb, h.bn, block_below h.blk hb, Kd.R_below h.row hb⟩
theorem Lo.app {w wr w1 : World} {n : Nat} {U C : List Sp} {v : Value} {g1 g2 : Nat} {vo vo1 : Value} {out out1 : List Sp} {b : Nat} {s : Sp} (h : Lo w wr n U C v g1 g2 vo out b s) (hb : Below (n + 1) wr w1) (hk : w1.heap[b]? = wr.heap[b]?) (hr : Kd.R kS 38 w1 (n + 1) (fun k => k ≠ b) vo1 out1) : Lo w w1 n U C v g1 g2 vo1 out1 b s :=
  ⟨⟨hb.os.trans h.bw.os, hb.tape.trans h.bw.tape, hb.output.trans h.bw.output, Nat.le_trans h.bw.size hb.size, fun k hk2 => (hb.block k (by have := h.n0; omega)).trans (h.bw.block k hk2)⟩, h.n0, h.fc.move (fun k hk2 => hb.block k (by omega)), h.bn, hk.trans h.blk, hr⟩
theorem Lo.fresh {w wr : World} {n : Nat} {U C : List Sp} {v : Value} {g1 g2 : Nat} {vo : Value} {out : List Sp} {b : Nat} {s : Sp} (h : Lo w wr n U C v g1 g2 vo out b s) (s2 : Sp) : Lo w (wr.alloc (.cells (encS s2).toArray 38)) n U C v g1 g2 vo out wr.heap.size s2 := by
  have hb := below_alloc (Below.refl wr.heap.size wr) (.cells (encS s2).toArray 38)
  have hn := h.next hb
  exact ⟨hn.bw, hn.n0, hn.fc, h.fc.lt, heap_alloc_new wr _, Kd.R_below (Kd.R_mono (Kd.R_bound h.row) (fun k hk => by have := hk.2.2.1; omega)) hb⟩
theorem Lo.set {w wr : World} {n : Nat} {U C : List Sp} {v : Value} {g1 g2 : Nat} {vo : Value} {out : List Sp} {b : Nat} {s : Sp} (h : Lo w wr n U C v g1 g2 vo out b s) (s2 : Sp) : Lo w (putS wr b s2) n U C v g1 g2 vo out b s2 :=
  ⟨below_putS s2 h.bw (by have := h.n0; have := h.bn; omega), h.n0, h.fc.move (fun k hk => putS_far s2 (by have := h.bn; omega)), h.bn, putS_same s2 h.blk, Kd.R_move h.row (fun k hk => putS_far s2 hk)⟩

set_option maxHeartbeats 8000000 in
set_option maxRecDepth 100000 in
theorem longest_calls (A : Option Addr) (c : Nat) (l : List Sp) (w : World) (hr : Kd.C kS w A l.length l) (hl : l.length ≤ c) (hn : l.length ≤ 1000000) (hs : ∀ s ∈ l, Sml s) :
    Calls Try.prog 15 #[.slice A l.length c] w fun e w' => ∃ v, e = .returned v ∧ Kd.R kS 38 w' w.heap.size (fun _ => True) v (long (cnt l)) ∧ Below w.heap.size w w' := by
  have hgc := gathered_calls A c l w hr hl hn
  have hD := cnt_dis l
  have hcl : (cnt l).length ≤ 1000000 := Nat.le_trans (cnt_len l) hn
  have hU := hasId_uq l
  have hSm : ∀ s ∈ cnt l, Sml s := fun s h => hs s (cnt_mem h)
  obtain ⟨C, hC⟩ : ∃ C, cnt l = C := ⟨_, rfl⟩
  obtain ⟨U, hUe⟩ : ∃ U, uq l = U := ⟨_, rfl⟩
  rw [hC] at hgc hD hcl hU hSm ⊢
  rw [hUe] at hgc hU
  have HGC := Lib.hid hgc
  have HD := Lib.hid hD
  have HCL := Lib.hid hcl
  have HU := Lib.hid hU
  have HSm := Lib.hid hSm
  clear hgc hD hcl hU hC hUe hr hl hn hs hSm
  have hmf : ∀ (fn : Fn) (first cap : Array Value) (w : World), (Instr.makeFunc fn first cap).run Try.prog w = .ok (.func fn first cap) w := fun _ _ _ _ => rfl
  go_enter Try.func15, Try.ntmps15
  go_wp2_with fail
  refine HGC.out.mono ?_
  rintro e w1 ⟨v, g1, g2, rfl, hF, hb⟩
  obtain ⟨Av, cv, rfl⟩ := Kd.R_slice hF.row
  have hz := below_alloc (Below.refl w1.heap.size w1) (.cells #[.slice Av C.length cv, .map (some g1), .map (some g2)] 47)
  have HF := Lib.hid (show Fc w.heap.size w1.heap.size (w1.alloc (.cells #[.slice Av C.length cv, .map (some g1), .map (some g2)] 47)) U C (.slice Av C.length cv) g1 g2 from ⟨hF.move (fun k _ hk => hz.block k hk), heap_alloc_new w1 _⟩)
  have HB := Lib.hid (below_step hb hz)
  have HN0 := Lib.hid hb.size
  clear hF hb HGC hz
  go_upto_region 3 with (fail)
  generalize (w1.alloc (.cells #[.slice Av C.length cv, .map (some g1), .map (some g2)] 47)) = w2 at HF HB ⊢
  generalize w1.heap.size = n at HF HN0 ⊢
  have y0 : w2.cell? ⟨n, 0, none⟩ = some (.slice Av C.length cv) := (blk_cell HF.out.fc 0).trans rfl
  have hcc := clone_calls Av cv C w2 (Kd.R_reads' HF.out.fam.row).2.2 (Kd.R_reads' HF.out.fam.row).2.1 HCL.out
  have HCC := Lib.hid hcc
  clear hcc
  go_wp2_with fail
  refine HCC.out.mono ?_
  rintro e w3 ⟨v3, rfl, hr3, hb3⟩
  obtain ⟨A3, c3, rfl⟩ := Kd.R_slice hr3
  have HF3 := Lib.hid (HF.out.next hb3)
  have HB3 := Lib.hid (below_step HB.out hb3)
  have HDF := Lib.hid (delf_calls HF3.out HU.out HF.out.lt hb3.size A3 c3 C hr3 HCL.out)
  have HNL := Lib.hid HF.out.lt
  have HSZ := Lib.hid hb3.size
  clear hr3 hb3 y0 HCC HF
  go_wp2_with fail
  refine HDF.out.mono ?_
  rintro e w4 ⟨v4, rfl, hr4, hb4⟩
  obtain ⟨A4, c4, rfl⟩ := Kd.R_slice hr4
  change Kd.R kS 38 w4 w2.heap.size (fun _ => True) (.slice A4 (rootsOf C).length c4) (rootsOf C) at hr4
  have HF4 := Lib.hid (HF3.out.move (fun k hk => hb4.block k (by have := HNL.out; omega)))
  have HB4 := Lib.hid (show Below w.heap.size w w4 from ⟨hb4.os.trans HB3.out.os, hb4.tape.trans HB3.out.tape, hb4.output.trans HB3.out.output, Nat.le_trans HB3.out.size hb4.size, fun k hk => (hb4.block k (by have := HNL.out; have := HN0.out; omega)).trans (HB3.out.block k hk)⟩)
  have HW0 := Lib.hid (Wy.start C)
  have hla := last_calls A4 c4 (rootsOf C) w4 (Kd.R_reads' hr4).2.2 (Kd.R_reads' hr4).2.1 (Nat.le_trans HW0.out.clen HCL.out) (fun s hs => HSm.out s (HW0.out.sub s hs))
  have HLA := Lib.hid hla
  clear hr4 hb4 hla HF3 HB3 HDF
  rw [show (C.filter fun s => rootB C s) = rootsOf C from rfl]
  go_wp2_with fail
  refine HLA.out.mono ?_
  rintro e w5 ⟨rfl, hb5⟩
  have HF5 := Lib.hid (HF4.out.next hb5)
  have HB5 := Lib.hid (below_step HB4.out hb5)
  clear hb5 HLA HF4 HB4
  obtain ⟨s1, hs1⟩ : ∃ s1, (lastS (rootsOf C)).getD zS = s1 := ⟨_, rfl⟩
  obtain ⟨o1, ho1⟩ : ∃ o1, (lastS (rootsOf C)).isSome = o1 := ⟨_, rfl⟩
  rw [hs1, ho1]
  have HS1 := Lib.hid hs1
  have HO1 := Lib.hid ho1
  clear hs1 ho1
  have hz := below_alloc (Below.refl w5.heap.size w5) (.cells (encS s1).toArray 38)
  have HLo := Lib.hid (show Lo w (w5.alloc (.cells (encS s1).toArray 38)) n U C (.slice Av C.length cv) g1 g2 (.slice none 0 0) [] w5.heap.size s1 from ⟨below_step HB5.out hz, HN0.out, HF5.out.next hz, HF5.out.lt, heap_alloc_new w5 _, Kd.R_nil _ _ _ _ _⟩)
  rw [arr_S] at HLo ⊢
  clear hz HF5 HB5
  go_wp2
  generalize (w5.alloc (.cells #[.int .u64 s1.tr, .int .u64 s1.id, .int .u64 s1.par, .string s1.svc, .string s1.op, .int .i64 s1.st, .int .i64 s1.du, .int .i64 s1.stt, .slice s1.a.1 s1.a.2.1 s1.a.2.2, .slice s1.e.1 s1.e.2.1 s1.e.2.2, .slice s1.l.1 s1.l.2.1 s1.l.2.2] 38)) = w6 at HLo ⊢
  generalize (Value.agg #[.int .u64 s1.tr, .int .u64 s1.id, .int .u64 s1.par, .string s1.svc, .string s1.op, .int .i64 s1.st, .int .i64 s1.du, .int .i64 s1.stt, .slice s1.a.1 s1.a.2.1 s1.a.2.2, .slice s1.e.1 s1.e.2.1 s1.e.2.2, .slice s1.l.1 s1.l.2.1 s1.l.2.2]) = junk1
  generalize w5.heap.size = b0 at HLo ⊢
  go_loopw [4, 6, 7] (fun v4 v6 v7 wr => ∃ (Ao : Option Addr) (co : Nat) (out cs : List Sp) (m b : Nat) (s : Sp) (o : Bool), v4 = .slice Ao out.length co ∧ v6 = .pointer (some ⟨b, 0, none⟩) ∧ v7 = .bool o ∧ Hid (Wy C out cs m) ∧ Hid ((lastS cs).getD zS = s) ∧ Hid ((lastS cs).isSome = o) ∧ Hid (Lo w wr n U C (.slice Av C.length cv) g1 g2 (.slice Ao out.length co) out b s)) (fun v4 _ _ _ => C.length + 1 - slLen v4)
  case atStart => exact ⟨none, 0, [], rootsOf C, C.length + 1, b0, s1, o1, rfl, rfl, rfl, HW0, HS1, HO1, HLo⟩
  case round =>
    clear HW0 HS1 HO1 HLo
    obtain ⟨Ao, co, out, cs, m, b, s, o, rfl, rfl, rfl, HW, HS, HO, HL⟩ := hrel
    cases hls : lastS cs with
    | none =>
      have ho : o = false := by rw [← HO.out, hls]; rfl
      subst ho
      have HE := Lib.hid (HW.out.none hls)
      clear hls
      go_wp2
      go_ret
      exact ⟨_, rfl, Kd.R_mono (Kd.R_lower (by rw [← HE.out]; exact HL.out.row) (by have := HL.out.n0; omega)) (fun _ _ => trivial), HL.out.bw⟩
    | some s' =>
      have ho : o = true := by rw [← HO.out, hls]; rfl
      have hss : s' = s := by rw [← HS.out, hls]; rfl
      subst ho
      subst hss
      have HLS := Lib.hid hls
      have HOL := Lib.hid (show out.length + 1 ≤ C.length by
        have := (HW.out.add hls).len HD.out
        rwa [List.length_append, List.length_singleton] at this)
      clear hls
      obtain ⟨x0, x1, x2, x3, x4, x5, x6, x7, x8, x9, x10⟩ := blkS (s := s') HL.out.blk
      have HB0 := Lib.hid (Below.refl (n + 1) wr)
      have HR0 := Lib.hid HL.out.row
      have HZ2 := Lib.hid (show n + 1 ≤ wr.heap.size from HL.out.fc.lt)
      have HBB := Lib.hid (blk_lt HL.out.blk)
      go_upto_region 8 with (first
          | ((with_reducible refine gate_dst (N := 32) rfl ?_); refine Kd.R_lit kS (w0 := wr) (n + 1) 38 ?hg36 (N := 32) ?hd36 (xs := [s']) (inner := encS s') (ok := fun k => k ≠ b) (okp := fun _ => False) ?hr36 ?hp36 (fun _ hk => hk.elim) (by have := HBB.out; omega) HB0.out HZ2.out (by simp) ?_; (case hd36 => rfl); (case hg36 => rfl); (case hr36 => first | (go_simp; done) | (go_simp; rfl)); (case hp36 => exact reps_S _ _ _ _); intro v5 w5 ho hb hg_ hnew_; clear hnew_; obtain ⟨A5, c5, rfl⟩ := Kd.R_slice ho; have HO5 := Lib.hid (Kd.R_reads' ho).2.2; have HB5 := Lib.hid hb; have HR5 := Lib.hid (Kd.R_grown2 HR0.out rfl hg_ (fun _ h => by cases h)); have HK5 := Lib.hid (hg_.block b HBB.out (fun h => by cases h)); have HG5 := Lib.hid hg_.size; clear ho hb hg_)
          | ((with_reducible refine gate_builtin (b := .append) (xs := #[.tmp 30, .tmp 32]) rfl ?_); at_builtin; refine Kd.R_append_rows kS (w0 := wr) (n + 1) rfl (.tmp 30) (.tmp 32) 22 38 (.agg #[(.int .u64 0), (.int .u64 0), (.int .u64 0), (.string ⟨#[]⟩), (.string ⟨#[]⟩), (.int .i64 0), (.int .i64 0), (.int .i64 0), (.slice none 0 0), (.slice none 0 0), (.slice none 0 0)]) 152 rfl Try.underlying22 infoS rfl (by decide) (by omega) (.slice Ao out.length co) out [s'] A5 _ c5 (fun k => k ≠ b) (fun _ => False) rfl rfl HR5.out HO5.out (fun x_ cs_ h_ => h_) (fun _ h => h.elim) (fun k h => by have := HBB.out; have := HG5.out; omega) HB5.out (Nat.le_trans HZ2.out HB5.out.size) (by have := HOL.out; have := HCL.out; simp; omega) ?_; intro v6 w7 ho hb hg_ hnew_; obtain ⟨A6, c6, rfl⟩ := Kd.R_slice ho; rw [show (out ++ [s']).length = out.length + 1 by simp] at ho; have HR6 := Lib.hid ho; have HB6 := Lib.hid hb; have HK6 := Lib.hid ((hg_.block b (Nat.lt_of_lt_of_le HBB.out HG5.out) (fun e => HR0.out.1 b e.symm rfl)).trans HK5.out); clear ho hb hg_ hnew_))
      have HL7 := Lib.hid (HL.out.app HB6.out HK6.out HR6.out)
      clear x0 x1 x2 x3 x4 x5 x6 x7 x8 x9 x10 HB0 HR0 HZ2 HBB HO5 HB5 HR5 HK5 HG5 HR6 HB6 HK6 HL
      generalize (Value.agg #[.int .u64 s'.tr, .int .u64 s'.id, .int .u64 s'.par, .string s'.svc, .string s'.op, .int .i64 s'.st, .int .i64 s'.du, .int .i64 s'.stt, .slice s'.a.1 s'.a.2.1 s'.a.2.2, .slice s'.e.1 s'.e.2.1 s'.e.2.2, .slice s'.l.1 s'.l.2.1 s'.l.2.2]) = junk2
      have i1 : w7.cell? ⟨b, 1, none⟩ = some (.int .u64 s'.id) := (blk_cell HL7.out.blk 1).trans rfl
      by_cases h0 : s'.id = 0
      · have e1 : (s'.id == 0) = true := beq_iff_eq.2 h0
        have HE := Lib.hid (HW.out.stop HD.out HLS.out h0)
        clear h0
        go_wp2
        go_ret
        exact ⟨_, rfl, Kd.R_mono (Kd.R_lower (by rw [← HE.out]; exact HL7.out.row) (by have := HL7.out.n0; omega)) (fun _ _ => trivial), HL7.out.bw⟩
      · have e1 : (s'.id == 0) = false := beq_eq_false_iff_ne.2 h0
        obtain ⟨m', hw'⟩ := HW.out.next HD.out HLS.out h0
        have HW2 := Lib.hid hw'
        clear hw' h0
        obtain ⟨x0, x1, x2, x3, x4, x5, x6, x7, x8, x9, x10⟩ := blkS (s := s') HL7.out.blk
        have HL8 := Lib.hid (HL7.out.fresh s')
        rw [arr_S] at HL8
        go_upto_region 6 with (fail)
        clear x0 x1 x2 x3 x4 x5 x6 x7 x8 x9 x10 i1 e1
        generalize (w7.alloc (.cells #[.int .u64 s'.tr, .int .u64 s'.id, .int .u64 s'.par, .string s'.svc, .string s'.op, .int .i64 s'.st, .int .i64 s'.du, .int .i64 s'.stt, .slice s'.a.1 s'.a.2.1 s'.a.2.2, .slice s'.e.1 s'.e.2.1 s'.e.2.2, .slice s'.l.1 s'.l.2.1 s'.l.2.2] 38)) = w8 at HL8 ⊢
        generalize (Value.agg #[.int .u64 s'.tr, .int .u64 s'.id, .int .u64 s'.par, .string s'.svc, .string s'.op, .int .i64 s'.st, .int .i64 s'.du, .int .i64 s'.stt, .slice s'.a.1 s'.a.2.1 s'.a.2.2, .slice s'.e.1 s'.e.2.1 s'.e.2.2, .slice s'.l.1 s'.l.2.1 s'.l.2.2]) = junk3
        generalize w7.heap.size = b2 at HL8 ⊢
        obtain ⟨es4, clk4, f4, hm4, hmo4, hr4⟩ := HL8.out.fc.fam.m2
        have hlk := run_look1 (mkey_int .u64) Try.underlying45 Try.underlying33 (.slice none 0 0) w8 (Try.zeroValue22 w8) hm4 hmo4 s'.id
        have hrk := hr4 s'.id
        obtain ⟨Ak, ck, hke⟩ := Kd.R_slice hrk
        rw [hke] at hlk hrk
        have y0 : w8.cell? ⟨n, 2, none⟩ = some (.map (some g2)) := (blk_cell HL8.out.fc.fc 2).trans rfl
        have y1 : w8.cell? ⟨b2, 1, none⟩ = some (.int .u64 s'.id) := (blk_cell HL8.out.blk 1).trans rfl
        have hla := last_calls Ak ck (kidsOf C s'.id) w8 (Kd.R_reads' hrk).2.2 (Kd.R_reads' hrk).2.1 (Nat.le_trans HW2.out.clen HCL.out) (fun s hs => HSm.out s (HW2.out.sub s hs))
        have HLA := Lib.hid hla
        clear hm4 hmo4 hr4 hke hrk hla
        go_wp2_with fail
        refine HLA.out.mono ?_
        rintro e w9 ⟨rfl, hb9⟩
        obtain ⟨s2, hs2⟩ : ∃ s2, (lastS (kidsOf C s'.id)).getD zS = s2 := ⟨_, rfl⟩
        obtain ⟨o2, ho2⟩ : ∃ o2, (lastS (kidsOf C s'.id)).isSome = o2 := ⟨_, rfl⟩
        rw [hs2, ho2]
        have HS2 := Lib.hid hs2
        have HO2 := Lib.hid ho2
        have HL9 := Lib.hid (HL8.out.next hb9)
        clear hb9 HLA hlk y0 y1 hs2 ho2
        obtain ⟨y0, y1, y2, y3, y4, y5, y6, y7, y8, y9, y10⟩ := blkS (s := s') HL9.out.blk
        obtain ⟨f0, f1, f2, f3, f4, f5, f6, f7, f8, f9, f10⟩ := blkF HL9.out.blk
        have HL10 := Lib.hid (HL9.out.set s2)
        change Hid (Lo w (((((((((((w9.setCell ⟨b2, 0, none⟩ (.int .u64 s2.tr)).setCell ⟨b2, 1, none⟩ (.int .u64 s2.id)).setCell ⟨b2, 2, none⟩ (.int .u64 s2.par)).setCell ⟨b2, 3, none⟩ (.string s2.svc)).setCell ⟨b2, 4, none⟩ (.string s2.op)).setCell ⟨b2, 5, none⟩ (.int .i64 s2.st)).setCell ⟨b2, 6, none⟩ (.int .i64 s2.du)).setCell ⟨b2, 7, none⟩ (.int .i64 s2.stt)).setCell ⟨b2, 8, none⟩ (.slice s2.a.1 s2.a.2.1 s2.a.2.2)).setCell ⟨b2, 9, none⟩ (.slice s2.e.1 s2.e.2.1 s2.e.2.2)).setCell ⟨b2, 10, none⟩ (.slice s2.l.1 s2.l.2.1 s2.l.2.2)) n U C (.slice Av C.length cv) g1 g2 (.slice A6 (out.length + 1) c6) (out ++ [s']) b2 s2) at HL10
        rw [arr_S]
        go_wp2
        generalize (((((((((((w9.setCell ⟨b2, 0, none⟩ (.int .u64 s2.tr)).setCell ⟨b2, 1, none⟩ (.int .u64 s2.id)).setCell ⟨b2, 2, none⟩ (.int .u64 s2.par)).setCell ⟨b2, 3, none⟩ (.string s2.svc)).setCell ⟨b2, 4, none⟩ (.string s2.op)).setCell ⟨b2, 5, none⟩ (.int .i64 s2.st)).setCell ⟨b2, 6, none⟩ (.int .i64 s2.du)).setCell ⟨b2, 7, none⟩ (.int .i64 s2.stt)).setCell ⟨b2, 8, none⟩ (.slice s2.a.1 s2.a.2.1 s2.a.2.2)).setCell ⟨b2, 9, none⟩ (.slice s2.e.1 s2.e.2.1 s2.e.2.2)).setCell ⟨b2, 10, none⟩ (.slice s2.l.1 s2.l.2.1 s2.l.2.2)) = w10 at HL10 ⊢
        go_roundw
        case rel => exact ⟨A6, c6, out ++ [s'], kidsOf C s'.id, m', b2, s2, o2, by simp, rfl, rfl, HW2, HS2, HO2, Lib.hid (by rw [List.length_append, List.length_singleton]; exact HL10.out)⟩
        case measure =>
          have := HOL.out
          show C.length + 1 - (out.length + 1) < C.length + 1 - out.length
          omega

end Go.Proofs.Ytoigebnhnkdbbaa.Tr
