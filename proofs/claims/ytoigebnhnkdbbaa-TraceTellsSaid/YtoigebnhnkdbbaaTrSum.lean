/- trace.Longest (chapter 26), by hand. -/
import Derived.Test.YtoigebnhnkdbbaaTrDelf
namespace Go.Proofs.Ytoigebnhnkdbbaa.Tr
open Go.RowKit Go.Proofs.YtoigebnhnkdbbaaW.PrintWords Go.Proofs.YtoigebnhnkdbbaaW.PrintLast Go.Proofs.YtoigebnhnkdbbaaW.PrintMore Go.Proofs.Ytoigebnhnkdbbaa.Math Go.Proofs.Ytoigebnhnkdbbaa.PAll Go.Proofs.Ytoigebnhnkdbbaa.MapG
set_option linter.unusedVariables false
set_option linter.unusedSimpArgs false

def slLen : Value → Nat | .slice _ n _ => n | _ => 0
/-- Where the way has come to, plainly. -/
structure Wy (C out c : List Sp) (m : Nat) : Prop where
  way : Way C out
  nz : ∀ x, out.getLast? = some x → x.id ≠ 0
  nx : c = nextOf C out
  all : out ++ wayF C m c = long C
  sum : m + out.length = C.length + 1
theorem Wy.start (C : List Sp) : Wy C [] (rootsOf C) (C.length + 1) := ⟨Way.nil C, (fun x h => by cases h), rfl, rfl, rfl⟩
theorem Wy.sub {C out c : List Sp} {m : Nat} (h : Wy C out c m) : ∀ s ∈ c, s ∈ C := by
  intro s hs
  rw [h.nx] at hs
  unfold nextOf at hs
  split at hs
  · exact (List.mem_filter.1 hs).1
  · exact (kids_mem.1 hs).1
theorem Wy.clen {C out c : List Sp} {m : Nat} (h : Wy C out c m) : c.length ≤ C.length := by
  rw [h.nx]
  unfold nextOf
  split
  · exact List.length_filter_le _ _
  · exact List.length_filter_le _ _
theorem Wy.none {C out c : List Sp} {m : Nat} (h : Wy C out c m) (hl : lastS c = Option.none) : out = long C := by
  have := h.all
  rwa [wayF_none (lastS_none.1 hl), List.append_nil] at this
theorem Wy.pos {C out c : List Sp} {m : Nat} (hC : Dis C) (h : Wy C out c m) : ∃ m', m = m' + 1 := ⟨m - 1, by have := h.way.len hC; have := h.sum; omega⟩
theorem Wy.add {C out c : List Sp} {m : Nat} (h : Wy C out c m) {s : Sp} (hl : lastS c = some s) : Way C (out ++ [s]) := h.way.add (by rw [← h.nx]; exact (lastS_facts hl).1) h.nz
theorem Wy.stop {C out c : List Sp} {m : Nat} (hC : Dis C) (h : Wy C out c m) {s : Sp} (hl : lastS c = some s) (h0 : s.id = 0) : out ++ [s] = long C := by
  obtain ⟨m', rfl⟩ := h.pos hC
  have := h.all
  rwa [wayF_some hl, if_pos h0] at this
theorem Wy.next {C out c : List Sp} {m : Nat} (hC : Dis C) (h : Wy C out c m) {s : Sp} (hl : lastS c = some s) (h0 : s.id ≠ 0) : ∃ m', Wy C (out ++ [s]) (kidsOf C s.id) m' := by
  obtain ⟨m', rfl⟩ := h.pos hC
  refine ⟨m', h.add hl, fun x hx => ?_, (nextOf_snoc C out s).symm, ?_, ?_⟩
  · rw [List.getLast?_append] at hx
    simp at hx
    rw [← hx]
    exact h0
  · have := h.all
    rw [wayF_some hl, if_neg h0] at this
    rw [← this, List.append_assoc]
    rfl
  · have := h.sum
    rw [List.length_append, List.length_singleton]
    omega
/-- .. and in the world: b the block of the one told last. -/
structure Lo (w wr : World) (n : Nat) (U C : List Sp) (v : Value) (g1 g2 : Nat) (vo : Value) (out : List Sp) (b : Nat) (s : Sp) : Prop where
  bw : Below w.heap.size w wr
  n0 : w.heap.size ≤ n
  fc : Fc w.heap.size n wr U C v g1 g2
  bn : n + 1 ≤ b
  blk : wr.heap[b]? = some (.cells (encS s).toArray 38 (0, 0))
  row : Kd.R kS 38 wr (n + 1) (fun k => k ≠ b) vo out
theorem Lo.next {w wr w1 : World} {n : Nat} {U C : List Sp} {v : Value} {g1 g2 : Nat} {vo : Value} {out : List Sp} {b : Nat} {s : Sp} (h : Lo w wr n U C v g1 g2 vo out b s) (hb : Below wr.heap.size wr w1) : Lo w w1 n U C v g1 g2 vo out b s :=
  ⟨below_step h.bw hb, h.n0, h.fc.next hb, h.bn, block_below h.blk hb, Kd.R_below h.row hb⟩
theorem Lo.app {w wr w1 : World} {n : Nat} {U C : List Sp} {v : Value} {g1 g2 : Nat} {vo vo1 : Value} {out out1 : List Sp} {b : Nat} {s : Sp} (h : Lo w wr n U C v g1 g2 vo out b s) (hb : Below (n + 1) wr w1) (hk : w1.heap[b]? = wr.heap[b]?) (hr : Kd.R kS 38 w1 (n + 1) (fun k => k ≠ b) vo1 out1) : Lo w w1 n U C v g1 g2 vo1 out1 b s :=
  ⟨⟨hb.os.trans h.bw.os, hb.tape.trans h.bw.tape, hb.output.trans h.bw.output, Nat.le_trans h.bw.size hb.size, fun k hk2 => (hb.block k (by have := h.n0; omega)).trans (h.bw.block k hk2)⟩, h.n0, h.fc.move (fun k hk2 => hb.block k (by omega)), h.bn, hk.trans h.blk, hr⟩
theorem Lo.fresh {w wr : World} {n : Nat} {U C : List Sp} {v : Value} {g1 g2 : Nat} {vo : Value} {out : List Sp} {b : Nat} {s : Sp} (h : Lo w wr n U C v g1 g2 vo out b s) (s2 : Sp) : Lo w (wr.alloc (.cells (encS s2).toArray 38)) n U C v g1 g2 vo out wr.heap.size s2 := by
  have hb := below_alloc (Below.refl wr.heap.size wr) (.cells (encS s2).toArray 38)
  have hn := h.next hb
  exact ⟨hn.bw, hn.n0, hn.fc, h.fc.lt, heap_alloc_new wr _, Kd.R_below (Kd.R_mono (Kd.R_bound h.row) (fun k hk => by have := hk.2.2.1; omega)) hb⟩
theorem Lo.set {w wr : World} {n : Nat} {U C : List Sp} {v : Value} {g1 g2 : Nat} {vo : Value} {out : List Sp} {b : Nat} {s : Sp} (h : Lo w wr n U C v g1 g2 vo out b s) (s2 : Sp) : Lo w (putS wr b s2) n U C v g1 g2 vo out b s2 :=
  ⟨below_putS s2 h.bw (by have := h.n0; have := h.bn; omega), h.n0, h.fc.move (fun k hk => putS_far s2 (by have := h.bn; omega)), h.bn, putS_same s2 h.blk, Kd.R_move h.row (fun k hk => putS_far s2 hk)⟩

set_option maxHeartbeats 8000000 in
set_option maxRecDepth 100000 in
theorem longest_calls (A : Option Addr) (c : Nat) (l : List Sp) (w : World) (hr : Kd.C kS w A l.length l) (hl : l.length ≤ c) (hn : l.length ≤ 1000000) (hs : ∀ s ∈ l, Sml s) :
    Calls Try.prog 15 #[.slice A l.length c] w fun e w' => ∃ v, e = .returned v ∧ Kd.R kS 38 w' w.heap.size (fun _ => True) v (long (cnt l)) ∧ Below w.heap.size w w' := by
  have hgc := gathered_calls A c l w hr hl hn
  have hD := cnt_dis l
  have hcl : (cnt l).length ≤ 1000000 := Nat.le_trans (cnt_len l) hn
  have hU := hasId_uq l
  have hSm : ∀ s ∈ cnt l, Sml s := fun s h => hs s (cnt_mem h)
  obtain ⟨C, hC⟩ : ∃ C, cnt l = C := ⟨_, rfl⟩
  obtain ⟨U, hUe⟩ : ∃ U, uq l = U := ⟨_, rfl⟩
  rw [hC] at hgc hD hcl hU hSm ⊢
  rw [hUe] at hgc hU
  have HGC := Lib.hid hgc
  have HD := Lib.hid hD
  have HCL := Lib.hid hcl
  have HU := Lib.hid hU
  have HSm := Lib.hid hSm
  clear hgc hD hcl hU hC hUe hr hl hn hs hSm
  have hmf : ∀ (fn : Fn) (first cap : Array Value) (w : World), (Instr.makeFunc fn first cap).run Try.prog w = .ok (.func fn first cap) w := fun _ _ _ _ => rfl
  go_enter Try.func15, Try.ntmps15
  go_wp2_with fail
  refine HGC.out.mono ?_
  rintro e w1 ⟨v, g1, g2, rfl, hF, hb⟩
  obtain ⟨Av, cv, rfl⟩ := Kd.R_slice hF.row
  have hz := below_alloc (Below.refl w1.heap.size w1) (.cells #[.slice Av C.length cv, .map (some g1), .map (some g2)] 47)
  have HF := Lib.hid (show Fc w.heap.size w1.heap.size (w1.alloc (.cells #[.slice Av C.length cv, .map (some g1), .map (some g2)] 47)) U C (.slice Av C.length cv) g1 g2 from ⟨hF.move (fun k _ hk => hz.block k hk), heap_alloc_new w1 _⟩)
  have HB := Lib.hid (below_step hb hz)
  have HN0 := Lib.hid hb.size
  clear hF hb HGC hz
  go_upto_region 3 with (fail)
  generalize (w1.alloc (.cells #[.slice Av C.length cv, .map (some g1), .map (some g2)] 47)) = w2 at HF HB ⊢
  generalize w1.heap.size = n at HF HN0 ⊢
  have y0 : w2.cell? ⟨n, 0, none⟩ = some (.slice Av C.length cv) := (blk_cell HF.out.fc 0).trans rfl
  have hcc := clone_calls Av cv C w2 (Kd.R_reads' HF.out.fam.row).2.2 (Kd.R_reads' HF.out.fam.row).2.1 HCL.out
  have HCC := Lib.hid hcc
  clear hcc
  go_wp2_with fail
  refine HCC.out.mono ?_
  rintro e w3 ⟨v3, rfl, hr3, hb3⟩
  obtain ⟨A3, c3, rfl⟩ := Kd.R_slice hr3
  have HF3 := Lib.hid (HF.out.next hb3)
  have HB3 := Lib.hid (below_step HB.out hb3)
  have HDF := Lib.hid (delf_calls HF3.out HU.out HF.out.lt hb3.size A3 c3 C hr3 HCL.out)
  have HNL := Lib.hid HF.out.lt
  have HSZ := Lib.hid hb3.size
  clear hr3 hb3 y0 HCC HF
  go_wp2_with fail
  refine HDF.out.mono ?_
  rintro e w4 ⟨v4, rfl, hr4, hb4⟩
  obtain ⟨A4, c4, rfl⟩ := Kd.R_slice hr4
  change Kd.R kS 38 w4 w2.heap.size (fun _ => True) (.slice A4 (rootsOf C).length c4) (rootsOf C) at hr4
  have HF4 := Lib.hid (HF3.out.move (fun k hk => hb4.block k (by have := HNL.out; omega)))
  have HB4 := Lib.hid (show Below w.heap.size w w4 from ⟨hb4.os.trans HB3.out.os, hb4.tape.trans HB3.out.tape, hb4.output.trans HB3.out.output, Nat.le_trans HB3.out.size hb4.size, fun k hk => (hb4.block k (by have := HNL.out; have := HN0.out; omega)).trans (HB3.out.block k hk)⟩)
  have HW0 := Lib.hid (Wy.start C)
  have hla := last_calls A4 c4 (rootsOf C) w4 (Kd.R_reads' hr4).2.2 (Kd.R_reads' hr4).2.1 (Nat.le_trans HW0.out.clen HCL.out) (fun s hs => HSm.out s (HW0.out.sub s hs))
  have HLA := Lib.hid hla
  clear hr4 hb4 hla HF3 HB3 HDF
  rw [show (C.filter fun s => rootB C s) = rootsOf C from rfl]
  go_wp2_with fail
  refine HLA.out.mono ?_
  rintro e w5 ⟨rfl, hb5⟩
  have HF5 := Lib.hid (HF4.out.next hb5)
  have HB5 := Lib.hid (below_step HB4.out hb5)
  clear hb5 HLA HF4 HB4
  obtain ⟨s1, hs1⟩ : ∃ s1, (lastS (rootsOf C)).getD zS = s1 := ⟨_, rfl⟩
  obtain ⟨o1, ho1⟩ : ∃ o1, (lastS (rootsOf C)).isSome = o1 := ⟨_, rfl⟩
  rw [hs1, ho1]
  have HS1 := Lib.hid hs1
  have HO1 := Lib.hid ho1
  clear hs1 ho1
  have hz := below_alloc (Below.refl w5.heap.size w5) (.cells (encS s1).toArray 38)
  have HLo := Lib.hid (show Lo w (w5.alloc (.cells (encS s1).toArray 38)) n U C (.slice Av C.length cv) g1 g2 (.slice none 0 0) [] w5.heap.size s1 from ⟨below_step HB5.out hz, HN0.out, HF5.out.next hz, HF5.out.lt, heap_alloc_new w5 _, Kd.R_nil _ _ _ _ _⟩)
  rw [arr_S] at HLo ⊢
  clear hz HF5 HB5
  go_wp2
  generalize (w5.alloc (.cells #[.int .u64 s1.tr, .int .u64 s1.id, .int .u64 s1.par, .string s1.svc, .string s1.op, .int .i64 s1.st, .int .i64 s1.du, .int .i64 s1.stt, .slice s1.a.1 s1.a.2.1 s1.a.2.2, .slice s1.e.1 s1.e.2.1 s1.e.2.2, .slice s1.l.1 s1.l.2.1 s1.l.2.2] 38)) = w6 at HLo ⊢
  generalize (Value.agg #[.int .u64 s1.tr, .int .u64 s1.id, .int .u64 s1.par, .string s1.svc, .string s1.op, .int .i64 s1.st, .int .i64 s1.du, .int .i64 s1.stt, .slice s1.a.1 s1.a.2.1 s1.a.2.2, .slice s1.e.1 s1.e.2.1 s1.e.2.2, .slice s1.l.1 s1.l.2.1 s1.l.2.2]) = junk1
  generalize w5.heap.size = b0 at HLo ⊢
  go_loopw [4, 6, 7] (fun v4 v6 v7 wr => ∃ (Ao : Option Addr) (co : Nat) (out cs : List Sp) (m b : Nat) (s : Sp) (o : Bool), v4 = .slice Ao out.length co ∧ v6 = .pointer (some ⟨b, 0, none⟩) ∧ v7 = .bool o ∧ Hid (Wy C out cs m) ∧ Hid ((lastS cs).getD zS = s) ∧ Hid ((lastS cs).isSome = o) ∧ Hid (Lo w wr n U C (.slice Av C.length cv) g1 g2 (.slice Ao out.length co) out b s)) (fun v4 _ _ _ => C.length + 1 - slLen v4)
  case atStart => exact ⟨none, 0, [], rootsOf C, C.length + 1, b0, s1, o1, rfl, rfl, rfl, HW0, HS1, HO1, HLo⟩
  case round =>
    clear HW0 HS1 HO1 HLo
    obtain ⟨Ao, co, out, cs, m, b, s, o, rfl, rfl, rfl, HW, HS, HO, HL⟩ := hrel
    cases hls : lastS cs with
    | none =>
      have ho : o = false := by rw [← HO.out, hls]; rfl
      subst ho
      have HE := Lib.hid (HW.out.none hls)
      clear hls
      go_wp2
      go_ret
      exact ⟨_, rfl, Kd.R_mono (Kd.R_lower (by rw [← HE.out]; exact HL.out.row) (by have := HL.out.n0; omega)) (fun _ _ => trivial), HL.out.bw⟩
    | some s' =>
      have ho : o = true := by rw [← HO.out, hls]; rfl
      have hss : s' = s := by rw [← HS.out, hls]; rfl
      subst ho
      subst hss
      have HLS := Lib.hid hls
      have HOL := Lib.hid (show out.length + 1 ≤ C.length by
        have := (HW.out.add hls).len HD.out
        rwa [List.length_append, List.length_singleton] at this)
      clear hls
      obtain ⟨x0, x1, x2, x3, x4, x5, x6, x7, x8, x9, x10⟩ := blkS (s := s') HL.out.blk
      have HB0 := Lib.hid (Below.refl (n + 1) wr)
      have HR0 := Lib.hid HL.out.row
      have HZ2 := Lib.hid (show n + 1 ≤ wr.heap.size from HL.out.fc.lt)
      have HBB := Lib.hid (blk_lt HL.out.blk)
      go_upto_region 8 with (first
          | ((with_reducible refine gate_dst (N := 32) rfl ?_); refine Kd.R_lit kS (w0 := wr) (n + 1) 38 ?hg36 (N := 32) ?hd36 (xs := [s']) (inner := encS s') (ok := fun k => k ≠ b) (okp := fun _ => False) ?hr36 ?hp36 (fun _ hk => hk.elim) (by have := HBB.out; omega) HB0.out HZ2.out (by simp) ?_; (case hd36 => rfl); (case hg36 => rfl); (case hr36 => first | (go_simp; done) | (go_simp; rfl)); (case hp36 => exact reps_S _ _ _ _); intro v5 w5 ho hb hg_ hnew_; clear hnew_; obtain ⟨A5, c5, rfl⟩ := Kd.R_slice ho; have HO5 := Lib.hid (Kd.R_reads' ho).2.2; have HB5 := Lib.hid hb; have HR5 := Lib.hid (Kd.R_grown2 HR0.out rfl hg_ (fun _ h => by cases h)); have HK5 := Lib.hid (hg_.block b HBB.out (fun h => by cases h)); have HG5 := Lib.hid hg_.size; clear ho hb hg_)
          | ((with_reducible refine gate_builtin (b := .append) (xs := #[.tmp 30, .tmp 32]) rfl ?_); at_builtin; refine Kd.R_append_rows kS (w0 := wr) (n + 1) rfl (.tmp 30) (.tmp 32) 22 38 (.agg #[(.int .u64 0), (.int .u64 0), (.int .u64 0), (.string ⟨#[]⟩), (.string ⟨#[]⟩), (.int .i64 0), (.int .i64 0), (.int .i64 0), (.slice none 0 0), (.slice none 0 0), (.slice none 0 0)]) 152 rfl Try.underlying22 infoS rfl (by decide) (by omega) (.slice Ao out.length co) out [s'] A5 _ c5 (fun k => k ≠ b) (fun _ => False) rfl rfl HR5.out HO5.out (fun x_ cs_ h_ => h_) (fun _ h => h.elim) (fun k h => by have := HBB.out; have := HG5.out; omega) HB5.out (Nat.le_trans HZ2.out HB5.out.size) (by have := HOL.out; have := HCL.out; simp; omega) ?_; intro v6 w7 ho hb hg_ hnew_; obtain ⟨A6, c6, rfl⟩ := Kd.R_slice ho; rw [show (out ++ [s']).length = out.length + 1 by simp] at ho; have HR6 := Lib.hid ho; have HB6 := Lib.hid hb; have HK6 := Lib.hid ((hg_.block b (Nat.lt_of_lt_of_le HBB.out HG5.out) (fun e => HR0.out.1 b e.symm rfl)).trans HK5.out); clear ho hb hg_ hnew_))
      have HL7 := Lib.hid (HL.out.app HB6.out HK6.out HR6.out)
      clear x0 x1 x2 x3 x4 x5 x6 x7 x8 x9 x10 HB0 HR0 HZ2 HBB HO5 HB5 HR5 HK5 HG5 HR6 HB6 HK6 HL
      generalize (Value.agg #[.int .u64 s'.tr, .int .u64 s'.id, .int .u64 s'.par, .string s'.svc, .string s'.op, .int .i64 s'.st, .int .i64 s'.du, .int .i64 s'.stt, .slice s'.a.1 s'.a.2.1 s'.a.2.2, .slice s'.e.1 s'.e.2.1 s'.e.2.2, .slice s'.l.1 s'.l.2.1 s'.l.2.2]) = junk2
      have i1 : w7.cell? ⟨b, 1, none⟩ = some (.int .u64 s'.id) := (blk_cell HL7.out.blk 1).trans rfl
      by_cases h0 : s'.id = 0
      · have e1 : (s'.id == 0) = true := beq_iff_eq.2 h0
        have HE := Lib.hid (HW.out.stop HD.out HLS.out h0)
        clear h0
        go_wp2
        go_ret
        exact ⟨_, rfl, Kd.R_mono (Kd.R_lower (by rw [← HE.out]; exact HL7.out.row) (by have := HL7.out.n0; omega)) (fun _ _ => trivial), HL7.out.bw⟩
      · have e1 : (s'.id == 0) = false := beq_eq_false_iff_ne.2 h0
        obtain ⟨m', hw'⟩ := HW.out.next HD.out HLS.out h0
        have HW2 := Lib.hid hw'
        clear hw' h0
        obtain ⟨x0, x1, x2, x3, x4, x5, x6, x7, x8, x9, x10⟩ := blkS (s := s') HL7.out.blk
        have HL8 := Lib.hid (HL7.out.fresh s')
        rw [arr_S] at HL8
        go_upto_region 6 with (fail)
        clear x0 x1 x2 x3 x4 x5 x6 x7 x8 x9 x10 i1 e1
        generalize (w7.alloc (.cells #[.int .u64 s'.tr, .int .u64 s'.id, .int .u64 s'.par, .string s'.svc, .string s'.op, .int .i64 s'.st, .int .i64 s'.du, .int .i64 s'.stt, .slice s'.a.1 s'.a.2.1 s'.a.2.2, .slice s'.e.1 s'.e.2.1 s'.e.2.2, .slice s'.l.1 s'.l.2.1 s'.l.2.2] 38)) = w8 at HL8 ⊢
        generalize (Value.agg #[.int .u64 s'.tr, .int .u64 s'.id, .int .u64 s'.par, .string s'.svc, .string s'.op, .int .i64 s'.st, .int .i64 s'.du, .int .i64 s'.stt, .slice s'.a.1 s'.a.2.1 s'.a.2.2, .slice s'.e.1 s'.e.2.1 s'.e.2.2, .slice s'.l.1 s'.l.2.1 s'.l.2.2]) = junk3
        generalize w7.heap.size = b2 at HL8 ⊢
        obtain ⟨es4, clk4, f4, hm4, hmo4, hr4⟩ := HL8.out.fc.fam.m2
        have hlk := run_look1 (mkey_int .u64) Try.underlying45 Try.underlying33 (.slice none 0 0) w8 (Try.zeroValue22 w8) hm4 hmo4 s'.id
        have hrk := hr4 s'.id
        obtain ⟨Ak, ck, hke⟩ := Kd.R_slice hrk
        rw [hke] at hlk hrk
        have y0 : w8.cell? ⟨n, 2, none⟩ = some (.map (some g2)) := (blk_cell HL8.out.fc.fc 2).trans rfl
        have y1 : w8.cell? ⟨b2, 1, none⟩ = some (.int .u64 s'.id) := (blk_cell HL8.out.blk 1).trans rfl
        have hla := last_calls Ak ck (kidsOf C s'.id) w8 (Kd.R_reads' hrk).2.2 (Kd.R_reads' hrk).2.1 (Nat.le_trans HW2.out.clen HCL.out) (fun s hs => HSm.out s (HW2.out.sub s hs))
        have HLA := Lib.hid hla
        clear hm4 hmo4 hr4 hke hrk hla
        go_wp2_with fail
        refine HLA.out.mono ?_
        rintro e w9 ⟨rfl, hb9⟩
        obtain ⟨s2, hs2⟩ : ∃ s2, (lastS (kidsOf C s'.id)).getD zS = s2 := ⟨_, rfl⟩
        obtain ⟨o2, ho2⟩ : ∃ o2, (lastS (kidsOf C s'.id)).isSome = o2 := ⟨_, rfl⟩
        rw [hs2, ho2]
        have HS2 := Lib.hid hs2
        have HO2 := Lib.hid ho2
        have HL9 := Lib.hid (HL8.out.next hb9)
        clear hb9 HLA hlk y0 y1 hs2 ho2
        obtain ⟨y0, y1, y2, y3, y4, y5, y6, y7, y8, y9, y10⟩ := blkS (s := s') HL9.out.blk
        obtain ⟨f0, f1, f2, f3, f4, f5, f6, f7, f8, f9, f10⟩ := blkF HL9.out.blk
        have HL10 := Lib.hid (HL9.out.set s2)
        change Hid (Lo w (((((((((((w9.setCell ⟨b2, 0, none⟩ (.int .u64 s2.tr)).setCell ⟨b2, 1, none⟩ (.int .u64 s2.id)).setCell ⟨b2, 2, none⟩ (.int .u64 s2.par)).setCell ⟨b2, 3, none⟩ (.string s2.svc)).setCell ⟨b2, 4, none⟩ (.string s2.op)).setCell ⟨b2, 5, none⟩ (.int .i64 s2.st)).setCell ⟨b2, 6, none⟩ (.int .i64 s2.du)).setCell ⟨b2, 7, none⟩ (.int .i64 s2.stt)).setCell ⟨b2, 8, none⟩ (.slice s2.a.1 s2.a.2.1 s2.a.2.2)).setCell ⟨b2, 9, none⟩ (.slice s2.e.1 s2.e.2.1 s2.e.2.2)).setCell ⟨b2, 10, none⟩ (.slice s2.l.1 s2.l.2.1 s2.l.2.2)) n U C (.slice Av C.length cv) g1 g2 (.slice A6 (out.length + 1) c6) (out ++ [s']) b2 s2) at HL10
        rw [arr_S]
        go_wp2
        generalize (((((((((((w9.setCell ⟨b2, 0, none⟩ (.int .u64 s2.tr)).setCell ⟨b2, 1, none⟩ (.int .u64 s2.id)).setCell ⟨b2, 2, none⟩ (.int .u64 s2.par)).setCell ⟨b2, 3, none⟩ (.string s2.svc)).setCell ⟨b2, 4, none⟩ (.string s2.op)).setCell ⟨b2, 5, none⟩ (.int .i64 s2.st)).setCell ⟨b2, 6, none⟩ (.int .i64 s2.du)).setCell ⟨b2, 7, none⟩ (.int .i64 s2.stt)).setCell ⟨b2, 8, none⟩ (.slice s2.a.1 s2.a.2.1 s2.a.2.2)).setCell ⟨b2, 9, none⟩ (.slice s2.e.1 s2.e.2.1 s2.e.2.2)).setCell ⟨b2, 10, none⟩ (.slice s2.l.1 s2.l.2.1 s2.l.2.2)) = w10 at HL10 ⊢
        go_roundw
        case rel => exact ⟨A6, c6, out ++ [s'], kidsOf C s'.id, m', b2, s2, o2, by simp, rfl, rfl, HW2, HS2, HO2, Lib.hid (by rw [List.length_append, List.length_singleton]; exact HL10.out)⟩
        case measure =>
          have := HOL.out
          show C.length + 1 - (out.length + 1) < C.length + 1 - out.length
          omega

end Go.Proofs.Ytoigebnhnkdbbaa.Tr

namespace Go.Proofs.Ytoigebnhnkdbbaa.Tr
open Go.RowKit Go.Proofs.YtoigebnhnkdbbaaW.PrintWords Go.Proofs.YtoigebnhnkdbbaaW.PrintLast Go.Proofs.YtoigebnhnkdbbaaW.PrintMore Go.Proofs.Ytoigebnhnkdbbaa.Math Go.Proofs.Ytoigebnhnkdbbaa.PAll Go.Proofs.Ytoigebnhnkdbbaa.MapG
open Go.ChangeMaps (setBlock)
set_option linter.unusedVariables false
set_option linter.unusedSimpArgs false

theorem sumS_bounds (l : List Sp) : (sumS l).n = l.length ∧ 0 ≤ (sumS l).er ∧ (sumS l).er ≤ l.length ∧ 0 ≤ (sumS l).sv ∧ (sumS l).sv ≤ l.length := by
  induction l using snoc_rec with
  | h0 => exact ⟨rfl, Int.le_refl _, Int.le_refl _, Int.le_refl _, Int.le_refl _⟩
  | h1 l s ih =>
    obtain ⟨h1, h2, h3, h4, h5⟩ := ih
    rw [sumS_snoc]
    simp only [List.length_append, List.length_singleton, sum1]
    refine ⟨by omega, ?_, ?_, ?_, ?_⟩ <;> split <;> omega
/-- The sum's cells. -/
def cellsM (n er st en : Int) : Array Value := #[.int .i64 n, .int .i64 er, .int .i64 st, .int .i64 en, .int .i64 0]
/-- While the sum is made: L the spans that the map counts. -/
structure Su (w wr : World) (n er st en : Int) (L : List Sp) (sv : Int) : Prop where
  bw : Below w.heap.size w wr
  size : w.heap.size + 3 ≤ wr.heap.size
  res : wr.heap[w.heap.size]? = some (.cells #[.int .i64 0, .int .i64 0, .int .i64 0, .int .i64 0, .int .i64 0] 29 (0, 0))
  out : wr.heap[w.heap.size + 1]? = some (.cells #[.int .i64 n, .int .i64 er, .int .i64 st, .int .i64 en, .int .i64 0] 29 (0, 0))
  mp : ∃ es clk f, wr.heap[w.heap.size + 1 + 1]? = some (.map es clk) ∧ MOk Value.string es clk f ∧ (∀ s, (f s).isSome = hasSvc L s) ∧ (∀ s v, f s = some v → ∃ q : Int, v = .int .i64 q ∧ 0 ≤ q ∧ q ≤ L.length) ∧ (es.size : Int) = sv
theorem Su.next {w wr w1 : World} {n er st en sv : Int} {L : List Sp} (h : Su w wr n er st en L sv) (hb : Below wr.heap.size wr w1) : Su w w1 n er st en L sv := by
  obtain ⟨es, clk, f, h1, h2⟩ := h.mp
  exact ⟨below_step h.bw hb, Nat.le_trans h.size hb.size, block_below h.res hb, block_below h.out hb, ⟨es, clk, f, block_below h1 hb, h2⟩⟩
theorem Su.start (w : World) : Su w (((w.alloc (.cells #[.int .i64 0, .int .i64 0, .int .i64 0, .int .i64 0, .int .i64 0] 29)).alloc (.cells #[.int .i64 0, .int .i64 0, .int .i64 0, .int .i64 0, .int .i64 0] 29)).alloc (.map #[] 0)) 0 0 0 0 [] 0 := by
  have sz : ∀ (W : World) (o : Obj), (W.alloc o).heap.size = W.heap.size + 1 := fun W o => by simp
  have b : ∀ (W : World) (o : Obj), Below W.heap.size W (W.alloc o) := fun W o => below_alloc (Below.refl _ _) o
  have h1 := heap_alloc_new w (.cells #[.int .i64 0, .int .i64 0, .int .i64 0, .int .i64 0, .int .i64 0] 29)
  have h2 := heap_alloc_new (w.alloc (.cells #[.int .i64 0, .int .i64 0, .int .i64 0, .int .i64 0, .int .i64 0] 29)) (.cells #[.int .i64 0, .int .i64 0, .int .i64 0, .int .i64 0, .int .i64 0] 29)
  have h3 := heap_alloc_new ((w.alloc (.cells #[.int .i64 0, .int .i64 0, .int .i64 0, .int .i64 0, .int .i64 0] 29)).alloc (.cells #[.int .i64 0, .int .i64 0, .int .i64 0, .int .i64 0, .int .i64 0] 29)) (.map #[] 0)
  simp only [sz] at h2 h3
  exact ⟨below_alloc (below_alloc (below_alloc (Below.refl _ _) _) _) _, by simp only [sz]; omega, block_below (block_below h1 (b _ _)) (b _ _), block_below h2 (b _ _), ⟨#[], 0, _, h3, MOk.empty _ 0, fun _ => rfl, (fun s v h => by cases h), rfl⟩⟩
/-- A cell of the sum stored: which one, and what. -/
theorem Su.set {w wr : World} {n er st en sv n2 er2 st2 en2 : Int} {L : List Sp} (h : Su w wr n er st en L sv) (i : Nat) (v : Value) (hv : (#[.int .i64 n, .int .i64 er, .int .i64 st, .int .i64 en, .int .i64 0] : Array Value).setIfInBounds i v = #[.int .i64 n2, .int .i64 er2, .int .i64 st2, .int .i64 en2, .int .i64 0]) : Su w (wr.setCell ⟨w.heap.size + 1, i, none⟩ v) n2 er2 st2 en2 L sv := by
  have far : ∀ k, k ≠ w.heap.size + 1 → (wr.setCell ⟨w.heap.size + 1, i, none⟩ v).heap[k]? = wr.heap[k]? := fun k hk => Below.heap_setCell _ _ _ _ hk
  obtain ⟨es, clk, f, h1, h2⟩ := h.mp
  refine ⟨below_set h.bw (by omega), by rw [World.size_setCell]; exact h.size, (far _ (by omega)).trans h.res, ?_, ⟨es, clk, f, (far _ (by omega)).trans h1, h2⟩⟩
  rw [blk_set h.out i v, hv]
theorem hasSvc_snoc (L : List Sp) (s : Sp) (x : ByteArray) : hasSvc (L ++ [s]) x = (hasSvc L x || decide (s.svc = x)) := by simp [hasSvc]
theorem Su.put {w wr : World} {n er st en sv : Int} {L : List Sp} {es es' : Array MapEntry} {clk' : Nat} {f : ByteArray → Option Value} {s : Sp} {q : Int} (h : Su w wr n er st en L sv) (hf : ∀ x, (f x).isSome = hasSvc L x) (hq : ∀ x v, f x = some v → ∃ q : Int, v = .int .i64 q ∧ 0 ≤ q ∧ q ≤ L.length) (hes : (es.size : Int) = sv) (h0 : 0 ≤ q) (hqL : q ≤ L.length) (hm : MOk Value.string es' clk' (fun x => if x = s.svc then some (.int .i64 (q + 1)) else f x)) (hsz : es'.size = if (f s.svc).isSome = true then es.size else es.size + 1) :
    Su w (setBlock wr (w.heap.size + 1 + 1) (.map es' clk')) n er st en (L ++ [s]) (if hasSvc L s.svc = true then sv else sv + 1) := by
  have hk : ∀ k, k ≠ w.heap.size + 1 + 1 → (setBlock wr (w.heap.size + 1 + 1) (.map es' clk')).heap[k]? = wr.heap[k]? := fun k hk => by rw [heap_setBlock, if_neg (fun e => hk e.1.symm)]
  have hz := h.size
  refine ⟨⟨h.bw.os, h.bw.tape, h.bw.output, by rw [size_setBlock]; exact h.bw.size, fun k hk2 => (hk k (by omega)).trans (h.bw.block k hk2)⟩, by rw [size_setBlock]; exact hz, (hk _ (by omega)).trans h.res, (hk _ (by omega)).trans h.out, ⟨es', clk', _, by rw [heap_setBlock, if_pos ⟨rfl, by omega⟩], hm, fun x => ?_, fun x v hx => ?_, ?_⟩⟩
  · rw [hasSvc_snoc]
    by_cases e : x = s.svc
    · rw [if_pos e, e]; simp
    · rw [if_neg e, hf x]
      have : decide (s.svc = x) = false := decide_eq_false (fun h => e h.symm)
      rw [this, Bool.or_false]
  · by_cases e : x = s.svc
    · rw [if_pos e] at hx
      injection hx with hx
      exact ⟨q + 1, hx.symm, by omega, by rw [List.length_append, List.length_singleton]; omega⟩
    · rw [if_neg e] at hx
      obtain ⟨q2, h1, h2, h3⟩ := hq x v hx
      exact ⟨q2, h1, h2, by rw [List.length_append, List.length_singleton]; omega⟩
  · rw [hsz, ← hf, ← hes]
    split <;> omega

set_option maxHeartbeats 8000000 in
set_option maxRecDepth 100000 in
theorem sum_calls (A : Option Addr) (c : Nat) (l : List Sp) (w : World) (hr : Kd.C kS w A l.length l) (hl : l.length ≤ c) (hn : l.length ≤ 1000000) (hs : ∀ s ∈ l, Sml s) :
    Calls Try.prog 12 #[.slice A l.length c] w fun e w' => e = .returned (.agg #[.int .i64 (sumS l).n, .int .i64 (sumS l).er, .int .i64 (sumS l).st, .int .i64 (sumS l).en, .int .i64 (sumS l).sv]) ∧ Below w.heap.size w w' := by
  have HR := Lib.hid hr
  have HN := Lib.hid hn
  have HSM := Lib.hid hs
  have HSu := Lib.hid (Su.start w)
  clear hr hn hs
  have hmm := @run_makeMap Try.prog
  go_enter Try.func12, Try.ntmps12
  go_wp2
  clear hmm
  generalize (((w.alloc (.cells #[.int .i64 0, .int .i64 0, .int .i64 0, .int .i64 0, .int .i64 0] 29)).alloc (.cells #[.int .i64 0, .int .i64 0, .int .i64 0, .int .i64 0, .int .i64 0] 29)).alloc (.map #[] 0)) = w1 at HSu ⊢
  go_loopw [5, 6, 10] (fun _ _ i wr => ∃ k : Nat, k ≤ l.length ∧ i = .int .i64 k ∧ Hid (Su w wr (sumS (l.take k)).n (sumS (l.take k)).er (sumS (l.take k)).st (sumS (l.take k)).en (l.take k) (sumS (l.take k)).sv)) (fun _ _ i _ => l.length - (intOf i).toNat)
  case atStart => exact ⟨0, by omega, rfl, HSu⟩
  case round =>
    clear HSu
    obtain ⟨k, hk, rfl, HS⟩ := hrel
    by_cases hlt : k < l.length
    · obtain ⟨s, hs⟩ : ∃ s, l[k]? = some s := ⟨_, List.getElem?_eq_getElem hlt⟩
      obtain ⟨ad, rfl, x0, x1, x2, x3, x4, x5, x6, x7, x8, x9, x10⟩ := at_S (Kd.C_below HR.out HS.out.bw) hs
      have HSC := Lib.hid (HSM.out s (List.mem_of_getElem? hs))
      have HTL := Lib.hid (show l.take (k + 1) = l.take k ++ [s] by
        obtain ⟨hk2, e⟩ := List.getElem?_eq_some_iff.1 hs
        rw [List.take_succ_eq_append_getElem hk2, e])
      have HTk := Lib.hid (show sumS (l.take (k + 1)) = sum1 (l.take k) (sumS (l.take k)) s by rw [HTL.out, sumS_snoc])
      have q : (k : Int) < (l.length : Int) := by omega
      have HK := Lib.hid (show k + 1 ≤ l.length by omega)
      have HW := Lib.hid (show wrap64 ((k : Int) + 1) = ((k + 1 : Nat) : Int) by have := HN.out; unfold wrap64; omega)
      have hbd := sumS_bounds (l.take k)
      have htl : (l.take k).length = k := by rw [List.length_take]; omega
      rw [htl] at hbd
      have HNIL := Lib.hid (show l.take k = [] ↔ k = 0 by rw [← List.length_eq_zero_iff, htl])
      have HTLN := Lib.hid htl
      obtain ⟨x, hx⟩ : ∃ x, sumS (l.take k) = x := ⟨_, rfl⟩
      obtain ⟨L, hL⟩ : ∃ L, l.take k = L := ⟨_, rfl⟩
      rw [hx] at HS HTk hbd
      rw [hL] at HS HTk HNIL HTLN HTL
      have HBD := Lib.hid hbd
      have hz := below_alloc (Below.refl wr.heap.size wr) (.cells (encS s).toArray 38)
      have HS1 := Lib.hid (HS.out.next hz)
      have KS := Lib.hid (heap_alloc_new wr (.cells (encS s).toArray 38))
      rw [arr_S] at HS1 KS
      have HKB := Lib.hid (show w.heap.size + 3 ≤ wr.heap.size from HS.out.size)
      clear hs hlt hk hz hbd htl hx hL HS
      go_upto_region 6 with (fail)
      clear x0 x1 x2 x3 x4 x5 x6 x7 x8 x9 x10 q
      generalize (wr.alloc (.cells #[.int .u64 s.tr, .int .u64 s.id, .int .u64 s.par, .string s.svc, .string s.op, .int .i64 s.st, .int .i64 s.du, .int .i64 s.stt, .slice s.a.1 s.a.2.1 s.a.2.2, .slice s.e.1 s.e.2.1 s.e.2.2, .slice s.l.1 s.l.2.1 s.l.2.2] 38)) = w2 at HS1 KS ⊢
      generalize (Value.agg #[.int .u64 s.tr, .int .u64 s.id, .int .u64 s.par, .string s.svc, .string s.op, .int .i64 s.st, .int .i64 s.du, .int .i64 s.stt, .slice s.a.1 s.a.2.1 s.a.2.2, .slice s.e.1 s.e.2.1 s.e.2.2, .slice s.l.1 s.l.2.1 s.l.2.2]) = junk1
      obtain ⟨b0, hb0⟩ : ∃ b : Bool, ((k : Int) == 0) = b := ⟨_, rfl⟩
      go_cut [16] from 15 to 16 (fun v16 wc => v16 = .bool b0 ∧ w2 = wc)
      case first =>
        go_wp2
        go_meet
        case rel => exact ⟨by rw [← hb0], rfl⟩
      case rest =>
      obtain ⟨rfl, rfl⟩ := hcut
      apply_assumption
      go_cut [] from 17 to 22 (fun wq => Hid (Su w wq x.n x.er (if L = [] then s.st else x.st) (if L = [] then enD s else x.en) L x.sv) ∧ Hid (wq.heap[wr.heap.size]? = some (.cells (encS s).toArray 38 (0, 0))))
      case first =>
        by_cases hk0 : k = 0
        · have e0 : b0 = true := by rw [← hb0]; exact beq_iff_eq.2 (by omega)
          subst e0
          clear hb0
          have HL0 := Lib.hid (HNIL.out.2 hk0)
          clear hk0
          go_upto_region 7 with (fail)
          have hsd := HS1.out.next (below_drew (Below.refl w2.heap.size w2))
          have ksd := blk_drew KS.out
          obtain ⟨x0, x1, x2, x3, x4, x5, x6, x7, x8, x9, x10⟩ := blkS (s := s) ksd
          refine start_ (n := 8) (S := fun w' => w'.cell? ⟨wr.heap.size, 0, none⟩ = some (.int .u64 s.tr) ∧ w'.cell? ⟨wr.heap.size, 1, none⟩ = some (.int .u64 s.id) ∧ w'.cell? ⟨wr.heap.size, 2, none⟩ = some (.int .u64 s.par) ∧ w'.cell? ⟨wr.heap.size, 3, none⟩ = some (.string s.svc) ∧ w'.cell? ⟨wr.heap.size, 4, none⟩ = some (.string s.op) ∧ w'.cell? ⟨wr.heap.size, 5, none⟩ = some (.int .i64 s.st) ∧ w'.cell? ⟨wr.heap.size, 6, none⟩ = some (.int .i64 s.du) ∧ w'.cell? ⟨wr.heap.size, 7, none⟩ = some (.int .i64 s.stt) ∧ w'.cell? ⟨wr.heap.size, 8, none⟩ = some (.slice s.a.1 s.a.2.1 s.a.2.2) ∧ w'.cell? ⟨wr.heap.size, 9, none⟩ = some (.slice s.e.1 s.e.2.1 s.e.2.2) ∧ w'.cell? ⟨wr.heap.size, 10, none⟩ = some (.slice s.l.1 s.l.2.1 s.l.2.2)) (ds := [5, 7]) #[false, false, false, false, false, false, false, false] (by kernel_rfl) rfl rfl ⟨x0, x1, x2, x3, x4, x5, x6, x7, x8, x9, x10⟩ (fun hHeld => ?_)
          generalize w2.drew = w5 at hsd ksd hHeld ⊢
          have HS5 := Lib.hid hsd
          have K5 := Lib.hid ksd
          clear hsd ksd x0 x1 x2 x3 x4 x5 x6 x7 x8 x9 x10
          refine pure_ (i := 0) (N := some 17) (v := ?_) (a' := ?_) #[true, false, false, false, false, false, false, false] rfl rfl (by kernel_rfl) (fun _ _ _ h => h) (Or.inl ⟨by rfl, ?_⟩) ?_ ?_
          rotate_left
          · intro w'
            go_simp
            with_reducible rfl
          rotate_left
          · simp only [Act.put, List.setIfInBounds_toArray, List.set_cons_zero, List.set_cons_succ, i64_w, i32_w]
            rfl
          refine take_ (i := 1) (N := some 18) (v := ?_) (a' := ?_) #[true, true, false, false, false, false, false, false] rfl rfl (by kernel_rfl) (fun _ _ _ h => h) (Or.inl ⟨by rfl, ?_⟩) hHeld ?_ ?_
          rotate_left
          · rintro w' ⟨s0, s1, s2, s3, s4, s5, s6, s7, s8, s9, s10⟩
            go_simp
            with_reducible rfl
          rotate_left
          · simp only [Act.put, List.setIfInBounds_toArray, List.set_cons_zero, List.set_cons_succ, i64_w, i32_w]
            rfl
          refine pure_ (i := 4) (N := some 21) (v := ?_) (a' := ?_) #[true, true, false, false, true, false, false, false] rfl rfl (by kernel_rfl) (fun _ _ _ h => h) (Or.inl ⟨by rfl, ?_⟩) ?_ ?_
          rotate_left
          · intro w'
            go_simp
            with_reducible rfl
          rotate_left
          · simp only [Act.put, List.setIfInBounds_toArray, List.set_cons_zero, List.set_cons_succ, i64_w, i32_w]
            rfl
          refine take_ (i := 2) (N := some 19) (v := ?_) (a' := ?_) #[true, true, true, false, true, false, false, false] rfl rfl (by kernel_rfl) (fun _ _ _ h => h) (Or.inl ⟨by rfl, ?_⟩) hHeld ?_ ?_
          rotate_left
          · rintro w' ⟨s0, s1, s2, s3, s4, s5, s6, s7, s8, s9, s10⟩
            go_simp
            with_reducible rfl
          rotate_left
          · simp only [Act.put, List.setIfInBounds_toArray, List.set_cons_zero, List.set_cons_succ, i64_w, i32_w]
            rfl
          refine one_ (i := 3) (N := some 20) #[true, true, true, true, true, false, false, false] rfl rfl (by kernel_rfl) (by decide) (fun K hK => ?_)
          have hend := end_calls HSC.out w5
          rw [arr_S] at hend
          refine goes_ Try.func26 (by kernel_rfl) rfl #[.agg #[.int .u64 s.tr, .int .u64 s.id, .int .u64 s.par, .string s.svc, .string s.op, .int .i64 s.st, .int .i64 s.du, .int .i64 s.stt, .slice s.a.1 s.a.2.1 s.a.2.2, .slice s.e.1 s.e.2.1 s.e.2.2, .slice s.l.1 s.l.2.1 s.l.2.2]] (by rfl) rfl rfl (by simp only [List.map_toArray, List.map_cons, List.map_nil]; rfl) ?_
          with_reducible refine (hend).mono ?_
          rintro ee w6 ⟨rfl, hb⟩
          refine ⟨_, rfl, ?_⟩
          have HS6 := Lib.hid (HS5.out.next hb)
          have K6 := Lib.hid (block_below K5.out hb)
          clear hb hend
          refine hK.out _ _ ⟨(blk_cell K6.out 0).trans rfl, (blk_cell K6.out 1).trans rfl, (blk_cell K6.out 2).trans rfl, (blk_cell K6.out 3).trans rfl, (blk_cell K6.out 4).trans rfl, (blk_cell K6.out 5).trans rfl, (blk_cell K6.out 6).trans rfl, (blk_cell K6.out 7).trans rfl, (blk_cell K6.out 8).trans rfl, (blk_cell K6.out 9).trans rfl, (blk_cell K6.out 10).trans rfl⟩ (fun hHeld => ?_)
          clear hK K
          refine norm_ (a' := ?_) ?_ ?_
          rotate_left
          · show Act.put _ (some 20) _ = _
            simp only [Act.put, List.setIfInBounds_toArray, List.set_cons_zero, List.set_cons_succ, i64_w, i32_w]
            rfl
          refine last_ (i := 5) (N := none) #[true, true, true, true, true, true, false, false] rfl rfl (by kernel_rfl) (by decide) (fun K hK => ?_)
          have c2 : w6.cell? ⟨w.heap.size + 1, 2, none⟩ = some (.int .i64 x.st) := (blk_cell HS6.out.out 2).trans rfl
          have f2 := blk_frozen HS6.out.out 2
          refine skip_ (w1 := ?_) (by rfl) rfl ?_ ?_
          rotate_left
          · go_simp
            rfl
          have HS7 := Lib.hid (HS6.out.set (n2 := x.n) (er2 := x.er) (st2 := s.st) (en2 := x.en) 2 (.int .i64 s.st) rfl)
          clear c2 f2
          have c3 : (w6.setCell ⟨w.heap.size + 1, 2, none⟩ (.int .i64 s.st)).cell? ⟨w.heap.size + 1, 3, none⟩ = some (.int .i64 x.en) := (blk_cell HS7.out.out 3).trans rfl
          have f3 := blk_frozen HS7.out.out 3
          refine hK.out _ _ ?_
          clear hK K
          refine pure_ (i := 6) (N := some 22) (v := ?_) (a' := ?_) #[true, true, true, true, true, true, true, false] rfl rfl (by kernel_rfl) (fun _ _ _ h => h) (Or.inl ⟨by rfl, ?_⟩) ?_ ?_
          rotate_left
          · intro w'
            go_simp
            with_reducible rfl
          rotate_left
          · simp only [Act.put, List.setIfInBounds_toArray, List.set_cons_zero, List.set_cons_succ, i64_w, i32_w]
            rfl
          refine last_ (i := 7) (N := none) #[true, true, true, true, true, true, true, true] rfl rfl (by kernel_rfl) (by decide) (fun K hK => ?_)
          refine skip_ (w1 := ?_) (by rfl) rfl ?_ ?_
          rotate_left
          · go_simp
            rfl
          refine hK.out _ _ ?_
          clear hK K
          refine done_ (by kernel_rfl) ?_
          have HS8 := Lib.hid (HS7.out.set (n2 := x.n) (er2 := x.er) (st2 := s.st) (en2 := enD s) 3 (.int .i64 (enD s)) rfl)
          have K8 := Lib.hid (show ((w6.setCell ⟨w.heap.size + 1, 2, none⟩ (.int .i64 s.st)).setCell ⟨w.heap.size + 1, 3, none⟩ (.int .i64 (enD s))).heap[wr.heap.size]? = some (.cells (encS s).toArray 38 (0, 0)) by rw [Below.heap_setCell _ _ _ _ (by show wr.heap.size ≠ w.heap.size + 1; have := HKB.out; omega), Below.heap_setCell _ _ _ _ (by show wr.heap.size ≠ w.heap.size + 1; have := HKB.out; omega)]; exact K6.out)
          go_wp2
          go_meet
          case rel => exact ⟨Lib.hid (by rw [if_pos HL0.out, if_pos HL0.out]; exact HS8.out), K8⟩
        · have e0 : b0 = false := by rw [← hb0]; exact beq_eq_false_iff_ne.2 (by omega)
          subst e0
          clear hb0
          have HL0 := Lib.hid (show ¬ L = [] from fun h => hk0 (HNIL.out.1 h))
          clear hk0
          go_wp2
          go_meet
          case rel => exact ⟨Lib.hid (by rw [if_neg HL0.out, if_neg HL0.out]; exact HS1.out), KS⟩
      obtain ⟨HSq, Kq⟩ := hcut
      clear HS1 KS HNIL hb0
      obtain ⟨st0, hst0⟩ : ∃ st0, (if L = [] then s.st else x.st) = st0 := ⟨_, rfl⟩
      obtain ⟨en0, hen0⟩ : ∃ en0, (if L = [] then enD s else x.en) = en0 := ⟨_, rfl⟩
      rw [hst0, hen0] at HSq
      have HST := Lib.hid hst0
      have HEN := Lib.hid hen0
      clear hst0 hen0
      have c0 : wc.cell? ⟨w.heap.size + 1, 0, none⟩ = some (.int .i64 x.n) := (blk_cell HSq.out.out 0).trans rfl
      have f0 := blk_frozen HSq.out.out 0
      have hwn : wrap64 (x.n + 1) = x.n + 1 := by have := HBD.out.1; have := HN.out; have := HK.out; unfold wrap64; omega
      have HS9 := Lib.hid (HSq.out.set (n2 := x.n + 1) (er2 := x.er) (st2 := st0) (en2 := en0) 0 (.int .i64 (x.n + 1)) rfl)
      have K9 := Lib.hid (show (wc.setCell ⟨w.heap.size + 1, 0, none⟩ (.int .i64 (x.n + 1))).heap[wr.heap.size]? = some (.cells (encS s).toArray 38 (0, 0)) by rw [Below.heap_setCell _ _ _ _ (by show wr.heap.size ≠ w.heap.size + 1; have := HKB.out; omega)]; exact Kq.out)
      go_upto_region 9 with (fail)
      clear c0 f0 hwn
      generalize wc.setCell ⟨w.heap.size + 1, 0, none⟩ (.int .i64 (x.n + 1)) = w9 at HS9 K9 ⊢
      obtain ⟨b1, hb1⟩ : ∃ b : Bool, (s.stt == 2) = b := ⟨_, rfl⟩
      have c7 : w9.cell? ⟨wr.heap.size, 7, none⟩ = some (.int .i64 s.stt) := (blk_cell K9.out 7).trans rfl
      go_cut [29] from 27 to 29 (fun v29 wc => v29 = .bool b1 ∧ w9 = wc)
      case first =>
        go_wp2
        go_meet
        case rel => exact ⟨by rw [← hb1], rfl⟩
      case rest =>
      obtain ⟨rfl, rfl⟩ := hcut
      clear c7
      apply_assumption
      go_cut [] from 30 to 33 (fun wq => Hid (Su w wq (x.n + 1) (if s.stt = 2 then x.er + 1 else x.er) st0 en0 L x.sv) ∧ Hid (wq.heap[wr.heap.size]? = some (.cells (encS s).toArray 38 (0, 0))))
      case first =>
        by_cases hk2 : s.stt = 2
        · have e0 : b1 = true := by rw [← hb1]; exact beq_iff_eq.2 hk2
          subst e0
          have H2 := Lib.hid hk2
          clear hb1 hk2
          have c1 : w9.cell? ⟨w.heap.size + 1, 1, none⟩ = some (.int .i64 x.er) := (blk_cell HS9.out.out 1).trans rfl
          have f1 := blk_frozen HS9.out.out 1
          have hwe : wrap64 (x.er + 1) = x.er + 1 := by have := HBD.out; have := HN.out; have := HK.out; unfold wrap64; omega
          have HS10 := Lib.hid (HS9.out.set (n2 := x.n + 1) (er2 := x.er + 1) (st2 := st0) (en2 := en0) 1 (.int .i64 (x.er + 1)) rfl)
          have K10 := Lib.hid (show (w9.setCell ⟨w.heap.size + 1, 1, none⟩ (.int .i64 (x.er + 1))).heap[wr.heap.size]? = some (.cells (encS s).toArray 38 (0, 0)) by rw [Below.heap_setCell _ _ _ _ (by show wr.heap.size ≠ w.heap.size + 1; have := HKB.out; omega)]; exact K9.out)
          go_wp2
          go_meet
          case rel => exact ⟨Lib.hid (by rw [if_pos H2.out]; exact HS10.out), K10⟩
        · have e0 : b1 = false := by rw [← hb1]; exact beq_eq_false_iff_ne.2 hk2
          subst e0
          have H2 := Lib.hid hk2
          clear hb1 hk2
          go_wp2
          go_meet
          case rel => exact ⟨Lib.hid (by rw [if_neg H2.out]; exact HS9.out), K9⟩
      obtain ⟨HS10, K10⟩ := hcut
      clear HS9 K9 hb1 HSq Kq
      obtain ⟨er0, her0⟩ : ∃ er0, (if s.stt = 2 then x.er + 1 else x.er) = er0 := ⟨_, rfl⟩
      rw [her0] at HS10
      have HER := Lib.hid her0
      clear her0
      go_upto_region 11 with (fail)
      have hsd := HS10.out.next (below_drew (Below.refl wc.heap.size wc))
      have ksd := blk_drew K10.out
      obtain ⟨x0, x1, x2, x3, x4, x5, x6, x7, x8, x9, x10⟩ := blkS (s := s) ksd
      have c2 : wc.drew.cell? ⟨w.heap.size + 1, 2, none⟩ = some (.int .i64 st0) := (blk_cell hsd.out 2).trans rfl
      have c3 : wc.drew.cell? ⟨w.heap.size + 1, 3, none⟩ = some (.int .i64 en0) := (blk_cell hsd.out 3).trans rfl
      refine start_ (n := 14) (S := fun w' => w'.cell? ⟨w.heap.size + 1, 2, none⟩ = some (.int .i64 st0) ∧ w'.cell? ⟨w.heap.size + 1, 3, none⟩ = some (.int .i64 en0) ∧ w'.cell? ⟨wr.heap.size, 0, none⟩ = some (.int .u64 s.tr) ∧ w'.cell? ⟨wr.heap.size, 1, none⟩ = some (.int .u64 s.id) ∧ w'.cell? ⟨wr.heap.size, 2, none⟩ = some (.int .u64 s.par) ∧ w'.cell? ⟨wr.heap.size, 3, none⟩ = some (.string s.svc) ∧ w'.cell? ⟨wr.heap.size, 4, none⟩ = some (.string s.op) ∧ w'.cell? ⟨wr.heap.size, 5, none⟩ = some (.int .i64 s.st) ∧ w'.cell? ⟨wr.heap.size, 6, none⟩ = some (.int .i64 s.du) ∧ w'.cell? ⟨wr.heap.size, 7, none⟩ = some (.int .i64 s.stt) ∧ w'.cell? ⟨wr.heap.size, 8, none⟩ = some (.slice s.a.1 s.a.2.1 s.a.2.2) ∧ w'.cell? ⟨wr.heap.size, 9, none⟩ = some (.slice s.e.1 s.e.2.1 s.e.2.2) ∧ w'.cell? ⟨wr.heap.size, 10, none⟩ = some (.slice s.l.1 s.l.2.1 s.l.2.2)) (ds := [11, 13]) #[false, false, false, false, false, false, false, false, false, false, false, false, false, false] (by kernel_rfl) rfl rfl ⟨c2, c3, x0, x1, x2, x3, x4, x5, x6, x7, x8, x9, x10⟩ (fun hHeld => ?_)
      generalize wc.drew = w5 at hsd ksd hHeld ⊢
      have HS11 := Lib.hid hsd
      have K11 := Lib.hid ksd
      clear hsd ksd c2 c3 x0 x1 x2 x3 x4 x5 x6 x7 x8 x9 x10
      refine pure_ (i := 0) (N := some 34) (v := ?_) (a' := ?_) #[true, false, false, false, false, false, false, false, false, false, false, false, false, false] rfl rfl (by kernel_rfl) (fun _ _ _ h => h) (Or.inl ⟨by rfl, ?_⟩) ?_ ?_
      rotate_left
      · intro w'
        go_simp
        with_reducible rfl
      rotate_left
      · simp only [Act.put, List.setIfInBounds_toArray, List.set_cons_zero, List.set_cons_succ, i64_w, i32_w]
        rfl
      refine pure_ (i := 2) (N := some 36) (v := ?_) (a' := ?_) #[true, false, true, false, false, false, false, false, false, false, false, false, false, false] rfl rfl (by kernel_rfl) (fun _ _ _ h => h) (Or.inl ⟨by rfl, ?_⟩) ?_ ?_
      rotate_left
      · intro w'
        go_simp
        with_reducible rfl
      rotate_left
      · simp only [Act.put, List.setIfInBounds_toArray, List.set_cons_zero, List.set_cons_succ, i64_w, i32_w]
        rfl
      refine pure_ (i := 5) (N := some 39) (v := ?_) (a' := ?_) #[true, false, true, false, false, true, false, false, false, false, false, false, false, false] rfl rfl (by kernel_rfl) (fun _ _ _ h => h) (Or.inl ⟨by rfl, ?_⟩) ?_ ?_
      rotate_left
      · intro w'
        go_simp
        with_reducible rfl
      rotate_left
      · simp only [Act.put, List.setIfInBounds_toArray, List.set_cons_zero, List.set_cons_succ, i64_w, i32_w]
        rfl
      refine take_ (i := 1) (N := some 35) (v := ?_) (a' := ?_) #[true, true, true, false, false, true, false, false, false, false, false, false, false, false] rfl rfl (by kernel_rfl) (fun _ _ _ h => h) (Or.inl ⟨by rfl, ?_⟩) hHeld ?_ ?_
      rotate_left
      · rintro w' ⟨s0, s1, s2, s3, s4, s5, s6, s7, s8, s9, s10, s11, s12⟩
        go_simp
        with_reducible rfl
      rotate_left
      · simp only [Act.put, List.setIfInBounds_toArray, List.set_cons_zero, List.set_cons_succ, i64_w, i32_w]
        rfl
      refine take_ (i := 3) (N := some 37) (v := ?_) (a' := ?_) #[true, true, true, true, false, true, false, false, false, false, false, false, false, false] rfl rfl (by kernel_rfl) (fun _ _ _ h => h) (Or.inl ⟨by rfl, ?_⟩) hHeld ?_ ?_
      rotate_left
      · rintro w' ⟨s0, s1, s2, s3, s4, s5, s6, s7, s8, s9, s10, s11, s12⟩
        go_simp
        with_reducible rfl
      rotate_left
      · simp only [Act.put, List.setIfInBounds_toArray, List.set_cons_zero, List.set_cons_succ, i64_w, i32_w]
        rfl
      refine pure_ (i := 4) (N := some 38) (v := ?_) (a' := ?_) #[true, true, true, true, true, true, false, false, false, false, false, false, false, false] rfl rfl (by kernel_rfl) (fun _ _ _ h => h) (Or.inl ⟨by rfl, ?_⟩) ?_ ?_
      rotate_left
      · intro w'
        go_simp
        with_reducible rfl
      rotate_left
      · simp only [Act.put, List.setIfInBounds_toArray, List.set_cons_zero, List.set_cons_succ, i64_w, i32_w]
        rfl
      refine take_ (i := 6) (N := some 40) (v := ?_) (a' := ?_) #[true, true, true, true, true, true, true, false, false, false, false, false, false, false] rfl rfl (by kernel_rfl) (fun _ _ _ h => h) (Or.inl ⟨by rfl, ?_⟩) hHeld ?_ ?_
      rotate_left
      · rintro w' ⟨s0, s1, s2, s3, s4, s5, s6, s7, s8, s9, s10, s11, s12⟩
        go_simp
        with_reducible rfl
      rotate_left
      · simp only [Act.put, List.setIfInBounds_toArray, List.set_cons_zero, List.set_cons_succ, i64_w, i32_w]
        rfl
      refine pure_ (i := 10) (N := some 44) (v := ?_) (a' := ?_) #[true, true, true, true, true, true, true, false, false, false, true, false, false, false] rfl rfl (by kernel_rfl) (fun _ _ _ h => h) (Or.inl ⟨by rfl, ?_⟩) ?_ ?_
      rotate_left
      · intro w'
        go_simp
        with_reducible rfl
      rotate_left
      · simp only [Act.put, List.setIfInBounds_toArray, List.set_cons_zero, List.set_cons_succ, i64_w, i32_w]
        rfl
      refine take_ (i := 7) (N := some 41) (v := ?_) (a' := ?_) #[true, true, true, true, true, true, true, true, false, false, true, false, false, false] rfl rfl (by kernel_rfl) (fun _ _ _ h => h) (Or.inl ⟨by rfl, ?_⟩) hHeld ?_ ?_
      rotate_left
      · rintro w' ⟨s0, s1, s2, s3, s4, s5, s6, s7, s8, s9, s10, s11, s12⟩
        go_simp
        with_reducible rfl
      rotate_left
      · simp only [Act.put, List.setIfInBounds_toArray, List.set_cons_zero, List.set_cons_succ, i64_w, i32_w]
        rfl
      refine one_ (i := 8) (N := some 42) #[true, true, true, true, true, true, true, true, true, false, true, false, false, false] rfl rfl (by kernel_rfl) (by decide) (fun K hK => ?_)
      have hend := end_calls HSC.out w5
      rw [arr_S] at hend
      refine goes_ Try.func26 (by kernel_rfl) rfl #[.agg #[.int .u64 s.tr, .int .u64 s.id, .int .u64 s.par, .string s.svc, .string s.op, .int .i64 s.st, .int .i64 s.du, .int .i64 s.stt, .slice s.a.1 s.a.2.1 s.a.2.2, .slice s.e.1 s.e.2.1 s.e.2.2, .slice s.l.1 s.l.2.1 s.l.2.2]] (by rfl) rfl rfl (by simp only [List.map_toArray, List.map_cons, List.map_nil]; rfl) ?_
      with_reducible refine (hend).mono ?_
      rintro ee w6 ⟨rfl, hb⟩
      refine ⟨_, rfl, ?_⟩
      have HS12 := Lib.hid (HS11.out.next hb)
      have K12 := Lib.hid (block_below K11.out hb)
      clear hb hend
      refine hK.out _ _ ⟨(blk_cell HS12.out.out 2).trans rfl, (blk_cell HS12.out.out 3).trans rfl, (blk_cell K12.out 0).trans rfl, (blk_cell K12.out 1).trans rfl, (blk_cell K12.out 2).trans rfl, (blk_cell K12.out 3).trans rfl, (blk_cell K12.out 4).trans rfl, (blk_cell K12.out 5).trans rfl, (blk_cell K12.out 6).trans rfl, (blk_cell K12.out 7).trans rfl, (blk_cell K12.out 8).trans rfl, (blk_cell K12.out 9).trans rfl, (blk_cell K12.out 10).trans rfl⟩ (fun hHeld => ?_)
      clear hK K
      refine norm_ (a' := ?_) ?_ ?_
      rotate_left
      · show Act.put _ (some 42) _ = _
        simp only [Act.put, List.setIfInBounds_toArray, List.set_cons_zero, List.set_cons_succ, i64_w, i32_w]
        rfl
      refine pure_ (i := 9) (N := some 43) (v := ?_) (a' := ?_) #[true, true, true, true, true, true, true, true, true, true, true, false, false, false] rfl rfl (by kernel_rfl) (fun _ _ _ h => h) (Or.inl ⟨by rfl, ?_⟩) ?_ ?_
      rotate_left
      · intro w'
        go_simp
        with_reducible rfl
      rotate_left
      · simp only [Act.put, List.setIfInBounds_toArray, List.set_cons_zero, List.set_cons_succ, i64_w, i32_w]
        rfl
      refine last_ (i := 11) (N := none) #[true, true, true, true, true, true, true, true, true, true, true, true, false, false] rfl rfl (by kernel_rfl) (by decide) (fun K hK => ?_)
      have c2 : w6.cell? ⟨w.heap.size + 1, 2, none⟩ = some (.int .i64 st0) := (blk_cell HS12.out.out 2).trans rfl
      have f2 := blk_frozen HS12.out.out 2
      refine skip_ (w1 := ?_) (by rfl) rfl ?_ ?_
      rotate_left
      · go_simp
        rfl
      have HS13 := Lib.hid (HS12.out.set (n2 := x.n + 1) (er2 := er0) (st2 := min st0 s.st) (en2 := en0) 2 (.int .i64 (min st0 s.st)) rfl)
      clear c2 f2
      have c3 : (w6.setCell ⟨w.heap.size + 1, 2, none⟩ (.int .i64 (min st0 s.st))).cell? ⟨w.heap.size + 1, 3, none⟩ = some (.int .i64 en0) := (blk_cell HS13.out.out 3).trans rfl
      have f3 := blk_frozen HS13.out.out 3
      refine hK.out _ _ ?_
      clear hK K
      refine pure_ (i := 12) (N := some 45) (v := ?_) (a' := ?_) #[true, true, true, true, true, true, true, true, true, true, true, true, true, false] rfl rfl (by kernel_rfl) (fun _ _ _ h => h) (Or.inl ⟨by rfl, ?_⟩) ?_ ?_
      rotate_left
      · intro w'
        go_simp
        with_reducible rfl
      rotate_left
      · simp only [Act.put, List.setIfInBounds_toArray, List.set_cons_zero, List.set_cons_succ, i64_w, i32_w]
        rfl
      refine last_ (i := 13) (N := none) #[true, true, true, true, true, true, true, true, true, true, true, true, true, true] rfl rfl (by kernel_rfl) (by decide) (fun K hK => ?_)
      refine skip_ (w1 := ?_) (by rfl) rfl ?_ ?_
      rotate_left
      · go_simp
        rfl
      refine hK.out _ _ ?_
      clear hK K
      refine done_ (by kernel_rfl) ?_
      have HS14 := Lib.hid (HS13.out.set (n2 := x.n + 1) (er2 := er0) (st2 := min st0 s.st) (en2 := max en0 (enD s)) 3 (.int .i64 (max en0 (enD s))) rfl)
      have K14 := Lib.hid (show ((w6.setCell ⟨w.heap.size + 1, 2, none⟩ (.int .i64 (min st0 s.st))).setCell ⟨w.heap.size + 1, 3, none⟩ (.int .i64 (max en0 (enD s)))).heap[wr.heap.size]? = some (.cells (encS s).toArray 38 (0, 0)) by rw [Below.heap_setCell _ _ _ _ (by show wr.heap.size ≠ w.heap.size + 1; have := HKB.out; omega), Below.heap_setCell _ _ _ _ (by show wr.heap.size ≠ w.heap.size + 1; have := HKB.out; omega)]; exact K12.out)
      generalize ((w6.setCell ⟨w.heap.size + 1, 2, none⟩ (.int .i64 (min st0 s.st))).setCell ⟨w.heap.size + 1, 3, none⟩ (.int .i64 (max en0 (enD s)))) = w7 at HS14 K14 ⊢
      clear HS10 HS11 HS12 HS13 K10 K11 K12 f3 c3
      obtain ⟨es, clk, f, hm, hmo, hf, hq, hes⟩ := HS14.out.mp
      have y3 : w7.cell? ⟨wr.heap.size, 3, none⟩ = some (.string s.svc) := (blk_cell K14.out 3).trans rfl
      have hlk := run_look1 mkey_string Try.underlying55 Try.underlying9 (.int .i64 0) w7 (Try.zeroValue3 w7) hm hmo s.svc
      obtain ⟨qn, hqe, hq0, hqL⟩ : ∃ qn : Int, (f s.svc).getD (.int .i64 0) = .int .i64 qn ∧ 0 ≤ qn ∧ qn ≤ L.length := by
        cases hfs : f s.svc with
        | none => exact ⟨0, rfl, Int.le_refl _, by omega⟩
        | some v =>
          obtain ⟨qn, h1, h2, h3⟩ := hq s.svc v hfs
          exact ⟨qn, h1, h2, h3⟩
      rw [hqe] at hlk
      have hwq : wrap64 (qn + 1) = qn + 1 := by have := HTLN.out; have := HK.out; have := HN.out; unfold wrap64; omega
      obtain ⟨es3, clk3, hput, hmo3, hsz3⟩ := run_put (P := Try.prog) mkey_string Try.underlying55 Try.underlying9 w7 hm hmo s.svc (.int .i64 (qn + 1))
      have HS15 := Lib.hid (HS14.out.put hf hq hes hq0 hqL hmo3 hsz3)
      have HQ0 := Lib.hid hq0
      clear hm hmo hf hq hes hqe hq0 hqL hmo3 hsz3 HS14 K14
      go_upto_region 13 with (fail)
      clear y3 hlk hput hwq
      generalize setBlock w7 (w.heap.size + 1 + 1) (.map es3 clk3) = w8 at HS15 ⊢
      go_wp2
      go_roundw
      case rel => exact ⟨k + 1, HK.out, by rw [HW.out], Lib.hid (by
        rw [HTk.out, HTL.out]
        have e1 : (sum1 L x s).st = min st0 s.st := by rw [← HST.out]; unfold sum1; simp only; split <;> omega
        have e2 : (sum1 L x s).en = max en0 (enD s) := by rw [← HEN.out]; unfold sum1; simp only; split <;> omega
        have e3 : (sum1 L x s).er = er0 := by rw [← HER.out]; rfl
        rw [e1, e2, e3]
        exact HS15.out)⟩
      case measure => exact meas_up HN.out HK.out
    · have hkl : k = l.length := by omega
      subst hkl
      have q : decide ((l.length : Int) < (l.length : Int)) = false := decide_eq_false (by omega)
      rw [List.take_length] at HS
      clear hlt hk
      obtain ⟨x, hx⟩ : ∃ x, sumS l = x := ⟨_, rfl⟩
      rw [hx] at HS
      have HXE := Lib.hid hx
      clear hx
      obtain ⟨es, clk, f, hm, hmo, hf, hq, hes⟩ := HS.out.mp
      have hlen : (Builtin.len_ #[55] 3 #[.map (some (w.heap.size + 1 + 1))]).run Try.prog wr = .ok (.int .i64 x.sv) wr := by
        rw [← hes]
        simp [Builtin.len_, run_underlying Try.underlying55, Go.MapKept.run_getObj_map hm, Result.andThen]
        rfl
      have c4 : wr.cell? ⟨w.heap.size + 1, 4, none⟩ = some (.int .i64 0) := (blk_cell HS.out.out 4).trans rfl
      have f4 := blk_frozen HS.out.out 4
      have ho := blk_set HS.out.out 4 (.int .i64 x.sv)
      have hr0 := (Below.heap_setCell wr ⟨w.heap.size + 1, 4, none⟩ (.int .i64 x.sv) w.heap.size (by show w.heap.size ≠ w.heap.size + 1; omega)).trans HS.out.res
      have HO := Lib.hid ho
      have HR0 := Lib.hid hr0
      have HB := Lib.hid (below_set (g := w.heap.size + 1) (j := 4) (v := .int .i64 x.sv) HS.out.bw (by omega))
      clear hm hmo hf hq hes ho hr0
      go_upto_region 15 with (fail)
      clear hlen c4 f4
      generalize wr.setCell ⟨w.heap.size + 1, 4, none⟩ (.int .i64 x.sv) = w9 at HO HR0 HB ⊢
      have o0 : w9.cell? ⟨w.heap.size + 1, 0, none⟩ = some (.int .i64 x.n) := (blk_cell HO.out 0).trans rfl
      have o1 : w9.cell? ⟨w.heap.size + 1, 1, none⟩ = some (.int .i64 x.er) := (blk_cell HO.out 1).trans rfl
      have o2 : w9.cell? ⟨w.heap.size + 1, 2, none⟩ = some (.int .i64 x.st) := (blk_cell HO.out 2).trans rfl
      have o3 : w9.cell? ⟨w.heap.size + 1, 3, none⟩ = some (.int .i64 x.en) := (blk_cell HO.out 3).trans rfl
      have o4 : w9.cell? ⟨w.heap.size + 1, 4, none⟩ = some (.int .i64 x.sv) := (blk_cell HO.out 4).trans rfl
      have z0 : w9.cell? ⟨w.heap.size, 0, none⟩ = some (.int .i64 0) := (blk_cell HR0.out 0).trans rfl
      have z1 : w9.cell? ⟨w.heap.size, 1, none⟩ = some (.int .i64 0) := (blk_cell HR0.out 1).trans rfl
      have z2 : w9.cell? ⟨w.heap.size, 2, none⟩ = some (.int .i64 0) := (blk_cell HR0.out 2).trans rfl
      have z3 : w9.cell? ⟨w.heap.size, 3, none⟩ = some (.int .i64 0) := (blk_cell HR0.out 3).trans rfl
      have z4 : w9.cell? ⟨w.heap.size, 4, none⟩ = some (.int .i64 0) := (blk_cell HR0.out 4).trans rfl
      have f0 := blk_frozen HR0.out 0
      have f1 := blk_frozen HR0.out 1
      have f2 := blk_frozen HR0.out 2
      have f3 := blk_frozen HR0.out 3
      have f4 := blk_frozen HR0.out 4
      go_wp2
      have hi : (Try.prog.info? 29).map (·.size) = some 5 := by kernel_rfl
      have hb := blk_set (blk_set (blk_set (blk_set (blk_set HR0.out 0 (.int .i64 x.n)) 1 (.int .i64 x.er)) 2 (.int .i64 x.st)) 3 (.int .i64 x.en)) 4 (.int .i64 x.sv)
      exact bodyPost_ret (v := .agg _) (results_cell_row rfl _ _ w.heap.size 29 _ (0, 0) _ rfl hb Try.underlying29 rfl hi) rfl ⟨by rw [HXE.out]; rfl, below_set (below_set (below_set (below_set (below_set HB.out (Nat.le_refl _)) (Nat.le_refl _)) (Nat.le_refl _)) (Nat.le_refl _)) (Nat.le_refl _)⟩

end Go.Proofs.Ytoigebnhnkdbbaa.Tr
