/- trace.gathered (chapter 26), by hand. -/
import Derived.Test.YtoigebnhnkdbbaaTrFam
namespace Go.Proofs.Ytoigebnhnkdbbaa.Tr
open Go.RowKit Go.Proofs.YtoigebnhnkdbbaaW.PrintWords Go.Proofs.YtoigebnhnkdbbaaW.PrintLast Go.Proofs.YtoigebnhnkdbbaaW.PrintMore Go.Proofs.Ytoigebnhnkdbbaa.Math Go.Proofs.Ytoigebnhnkdbbaa.PAll Go.Proofs.Ytoigebnhnkdbbaa.MapG
open Go.ChangeMaps (setBlock)
set_option linter.unusedVariables false
set_option linter.unusedSimpArgs false

set_option maxHeartbeats 4000000 in
set_option maxRecDepth 100000 in
theorem gathered_calls (A : Option Addr) (c : Nat) (l : List Sp) (w : World) (hr : Kd.C kS w A l.length l) (hl : l.length ≤ c) (hn : l.length ≤ 1000000) :
    Calls Try.prog 21 #[.slice A l.length c] w fun e w' => ∃ v g1 g2, e = .returned (.agg #[v, .map (some g1), .map (some g2)]) ∧ Fam w.heap.size w'.heap.size w' (uq l) (cnt l) v g1 g2 ∧ Below w.heap.size w w' := by
  have HR := Lib.hid hr
  have HN := Lib.hid hn
  clear hr hn
  have hmm := @run_makeMap Try.prog
  go_enter Try.func21, Try.ntmps21
  go_wp2
  clear hmm
  go_loopw [5, 6, 7, 15] (fun _ _ _ i wr => ∃ (k : Nat) (v : Value), k ≤ l.length ∧ i = .int .i64 k ∧ Hid (G1 w wr w.heap.size (uq (l.take k)) (uq (l.take k)) v)) (fun _ _ _ i _ => l.length - (intOf i).toNat)
  case atStart => exact ⟨0, _, by omega, rfl, Lib.hid (G1.start w)⟩
  case round =>
    obtain ⟨k, v, hk, rfl, HG⟩ := hrel
    by_cases hlt : k < l.length
    · obtain ⟨s, hs⟩ : ∃ s, l[k]? = some s := ⟨_, List.getElem?_eq_getElem hlt⟩
      obtain ⟨ad, rfl, x0, x1, x2, x3, x4, x5, x6, x7, x8, x9, x10⟩ := at_S (Kd.C_below HR.out HG.out.bw) hs
      have HTk := Lib.hid (show uq (l.take (k + 1)) = uq1 (uq (l.take k)) s by
        obtain ⟨hk2, e⟩ := List.getElem?_eq_some_iff.1 hs
        rw [List.take_succ_eq_append_getElem hk2, e, uq_snoc])
      have q : (k : Int) < (l.length : Int) := by omega
      have HK := Lib.hid (show k + 1 ≤ l.length by omega)
      have HW := Lib.hid (show wrap64 ((k : Int) + 1) = ((k + 1 : Nat) : Int) by have := HN.out; unfold wrap64; omega)
      have HM := Lib.hid (show l.length - (k + 1) < l.length - k by omega)
      have HG1 := Lib.hid (HG.out.next (below_alloc (Below.refl _ _) (.cells (encS s).toArray 38)))
      have KS := Lib.hid (heap_alloc_new wr (.cells (encS s).toArray 38))
      rw [arr_S] at HG1 KS
      clear hs hlt hk
      go_upto_region 5 with (fail)
      clear x0 x1 x2 x3 x4 x5 x6 x7 x8 x9 x10
      generalize (wr.alloc (.cells #[.int .u64 s.tr, .int .u64 s.id, .int .u64 s.par, .string s.svc, .string s.op, .int .i64 s.st, .int .i64 s.du, .int .i64 s.stt, .slice s.a.1 s.a.2.1 s.a.2.2, .slice s.e.1 s.e.2.1 s.e.2.2, .slice s.l.1 s.l.2.1 s.l.2.2] 38)) = w1 at HG1 KS ⊢
      generalize (Value.agg #[.int .u64 s.tr, .int .u64 s.id, .int .u64 s.par, .string s.svc, .string s.op, .int .i64 s.st, .int .i64 s.du, .int .i64 s.stt, .slice s.a.1 s.a.2.1 s.a.2.2, .slice s.e.1 s.e.2.1 s.e.2.2, .slice s.l.1 s.l.2.1 s.l.2.2]) = junk1

      obtain ⟨es, clk, hm, hmo⟩ := HG1.out.m1
      have y1 : w1.cell? ⟨w.heap.size + 1 + 1 + 1, 1, none⟩ = some (.map (some (w.heap.size + 1))) := (blk_cell HG1.out.fam 1).trans rfl
      have y2 : w1.cell? ⟨wr.heap.size, 1, none⟩ = some (.int .u64 s.id) := (blk_cell KS.out 1).trans rfl
      have hlk := run_look (mkey_int .u64) Try.underlying44 Try.underlying33 _ w1 (Try.zeroValue38 w1) hm hmo s.id
      rw [byId_isSome] at hlk
      cases hh : hasId (uq (l.take k)) s.id with
      | true =>
        have HTk2 := Lib.hid (show uq (l.take (k + 1)) = uq (l.take k) by rw [HTk.out]; unfold uq1; rw [if_pos hh])
        rw [hh] at hlk
        obtain ⟨s2, hs2⟩ : ∃ s2, (byId (uq (l.take k)) s.id) = some (.agg (encS s2).toArray) := by
          have h2 := byId_isSome (uq (l.take k)) s.id
          rw [hh] at h2
          unfold byId at h2 ⊢
          cases hf : (uq (l.take k)).find? fun s_1 => s_1.id == s.id with
          | none => rw [hf] at h2; cases h2
          | some s2 => exact ⟨s2, rfl⟩
        rw [hs2, Option.getD_some, arr_S] at hlk
        have HGx := Lib.hid (HG1.out.next (below_alloc (Below.refl _ _) (.cells (encS s2).toArray 38)))
        rw [arr_S] at HGx
        clear hm hmo hs2 hh

        go_wp2
        go_roundw
        case rel => exact ⟨k + 1, v, HK.out, by rw [HW.out], Lib.hid (by rw [HTk2.out]; exact HGx.out)⟩
        case measure => exact meas_up HN.out HK.out
      | false =>
        have HTk2 := Lib.hid (show uq (l.take (k + 1)) = uq (l.take k) ++ [s] by rw [HTk.out]; unfold uq1; rw [if_neg (by rw [hh]; decide)])
        have HH := Lib.hid hh
        obtain ⟨Av, cv, rfl⟩ := Kd.R_slice HG.out.row
        have hn0 : byId (uq (l.take k)) s.id = none := by
          have h2 := byId_isSome (uq (l.take k)) s.id
          rw [hh] at h2
          cases hf : byId (uq (l.take k)) s.id with
          | none => rfl
          | some v => rw [hf] at h2; cases h2
        rw [hh, hn0, Option.getD_none] at hlk
        have HL2 := Lib.hid (show (uq (l.take k)).length ≤ 1000000 from Nat.le_trans (uq_len _) (Nat.le_trans (by rw [List.length_take]; omega) HN.out))
        clear hm hmo hh hn0
        have hz := below_alloc (Below.refl w1.heap.size w1) (.cells #[(.int .u64 0), (.int .u64 0), (.int .u64 0), (.string ⟨#[]⟩), (.string ⟨#[]⟩), (.int .i64 0), (.int .i64 0), (.int .i64 0), (.slice none 0 0), (.slice none 0 0), (.slice none 0 0)] 38)
        have HGx := Lib.hid (HG1.out.next hz)
        have KSx := Lib.hid (block_below KS.out hz)
        clear hz
        go_upto_region 7 with (fail)
        generalize (w1.alloc (.cells #[(.int .u64 0), (.int .u64 0), (.int .u64 0), (.string ⟨#[]⟩), (.string ⟨#[]⟩), (.int .i64 0), (.int .i64 0), (.int .i64 0), (.slice none 0 0), (.slice none 0 0), (.slice none 0 0)] 38)) = w2 at HGx KSx ⊢
        clear y1 y2 hlk
        generalize Value.tuple #[(Value.agg #[(.int .u64 0), (.int .u64 0), (.int .u64 0), (.string ⟨#[]⟩), (.string ⟨#[]⟩), (.int .i64 0), (.int .i64 0), (.int .i64 0), (.slice none 0 0), (.slice none 0 0), (.slice none 0 0)]), .bool false] = junk3
        generalize (Value.agg #[(.int .u64 0), (.int .u64 0), (.int .u64 0), (.string ⟨#[]⟩), (.string ⟨#[]⟩), (.int .i64 0), (.int .i64 0), (.int .i64 0), (.slice none 0 0), (.slice none 0 0), (.slice none 0 0)]) = junk2

        have y1 : w2.cell? ⟨w.heap.size + 1 + 1 + 1, 1, none⟩ = some (.map (some (w.heap.size + 1))) := (blk_cell HGx.out.fam 1).trans rfl
        obtain ⟨x0, x1, x2, x3, x4, x5, x6, x7, x8, x9, x10⟩ := blkS (s := s) KSx.out
        obtain ⟨es2, clk2, hm2, hmo2⟩ := HGx.out.m1
        obtain ⟨es3, clk3, hput, hmo3, _⟩ := run_put (P := Try.prog) (mkey_int .u64) Try.underlying44 Try.underlying33 w2 hm2 hmo2 s.id (.agg (encS s).toArray)
        have HGy := Lib.hid (HGx.out.put HH.out hmo3)
        have KSy := Lib.hid (show (setBlock w2 (w.heap.size + 1) (.map es3 clk3)).heap[wr.heap.size]? = some (.cells (encS s).toArray 38 (0, 0)) by rw [heap_setBlock, if_neg (fun e => by have := HG.out.size; have := e.1; omega)]; exact KSx.out)
        rw [arr_S] at hput
        clear hm2 hmo2 hmo3
        go_upto_region 8 with (fail)
        clear hput y1 x0 x1 x2 x3 x4 x5 x6 x7 x8 x9 x10
        generalize setBlock w2 (w.heap.size + 1) (.map es3 clk3) = w3 at HGy KSy ⊢
        generalize (Value.agg #[.int .u64 s.tr, .int .u64 s.id, .int .u64 s.par, .string s.svc, .string s.op, .int .i64 s.st, .int .i64 s.du, .int .i64 s.stt, .slice s.a.1 s.a.2.1 s.a.2.2, .slice s.e.1 s.e.2.1 s.e.2.2, .slice s.l.1 s.l.2.1 s.l.2.2]) = junk4
        have y0 : w3.cell? ⟨w.heap.size + 1 + 1 + 1, 0, none⟩ = some (.slice Av (uq (l.take k)).length cv) := (blk_cell HGy.out.fam 0).trans rfl
        obtain ⟨x0, x1, x2, x3, x4, x5, x6, x7, x8, x9, x10⟩ := blkS (s := s) KSy.out
        have HZ3 := Lib.hid (show w.heap.size + 4 ≤ w3.heap.size from HGy.out.size)
        have HR0 := Lib.hid HGy.out.row
        have HF0 := Lib.hid HGy.out.fam
        have HB0 := Lib.hid (Below.refl (w.heap.size + 4) w3)
        go_wp2_with (first
          | ((with_reducible refine gate_dst (N := 36) rfl ?_); refine Kd.R_lit kS (w0 := w3) (w.heap.size + 4) 38 ?hg36 (N := 36) ?hd36 (xs := [s]) (inner := encS s) (ok := fun _ => True) (okp := fun _ => True) ?hr36 ?hp36 (fun _ hk => hk) trivial HB0.out HZ3.out (by simp) ?_; (case hd36 => rfl); (case hg36 => rfl); (case hr36 => first | (go_simp; done) | (go_simp; rfl)); (case hp36 => exact reps_S _ _ _ _); intro v5 w5 ho hb hg_ hnew_; clear hnew_; obtain ⟨A5, c5, rfl⟩ := Kd.R_slice ho; have HO5 := Lib.hid (Kd.R_reads' ho).2.2; have HB5 := Lib.hid hb; have HR5 := Lib.hid (Kd.R_grown2 HR0.out rfl hg_ (fun _ h => by cases h)); clear ho hb hg_)
          | ((with_reducible refine gate_builtin (b := .append) (xs := #[.tmp 34, .tmp 36]) rfl ?_); at_builtin; refine Kd.R_append_rows kS (w0 := w3) (w.heap.size + 4) rfl (.tmp 34) (.tmp 36) 22 38 (.agg #[(.int .u64 0), (.int .u64 0), (.int .u64 0), (.string ⟨#[]⟩), (.string ⟨#[]⟩), (.int .i64 0), (.int .i64 0), (.int .i64 0), (.slice none 0 0), (.slice none 0 0), (.slice none 0 0)]) 152 rfl Try.underlying22 infoS rfl (by decide) (by omega) (.slice Av (uq (l.take k)).length cv) (uq (l.take k)) [s] A5 _ c5 (fun _ => True) (fun _ => False) rfl rfl HR5.out HO5.out (fun x_ cs_ h_ => h_) (fun _ h => h.elim) (fun _ _ => trivial) HB5.out (Nat.le_trans HZ3.out HB5.out.size) (by have := HL2.out; simp; omega) ?_; intro v6 w6 ho hb hg_ hnew_; clear hg_ hnew_; obtain ⟨A6, c6, rfl⟩ := Kd.R_slice ho; rw [show (uq (l.take k) ++ [s]).length = (uq (l.take k)).length + 1 by simp] at ho; have HR6 := Lib.hid ho; have HB6 := Lib.hid hb; have z6 := blk_frozen ((hb.block _ (by omega)).trans HF0.out) 0; have y6 : w6.cell? ⟨w.heap.size + 1 + 1 + 1, 0, none⟩ = some (.slice Av (uq (l.take k)).length cv) := (blk_cell ((hb.block _ (by omega)).trans HF0.out) 0).trans rfl; clear ho hb))
        go_roundw
        case rel => exact ⟨k + 1, _, HK.out, by rw [HW.out], Lib.hid (by rw [HTk2.out]; exact HGy.out.app HB6.out HR6.out)⟩
        case measure => exact meas_up HN.out HK.out
    · have hkl : k = l.length := by omega
      subst hkl
      have q : decide ((l.length : Int) < (l.length : Int)) = false := decide_eq_false (by omega)
      rw [List.take_length] at HG
      obtain ⟨Av, cv, rfl⟩ := Kd.R_slice HG.out.row
      have y0 : wr.cell? ⟨w.heap.size + 1 + 1 + 1, 0, none⟩ = some (.slice Av (uq l).length cv) := (blk_cell HG.out.fam 0).trans rfl
      have hlu : (uq l).length ≤ 1000000 := Nat.le_trans (uq_len l) HN.out
      have HCL := Lib.hid (show (uq l).length = (cnt l).length from (cnt_perm l).length_eq.symm)
      clear hlt hk
      go_wp2_with fail
      refine (sort_R HG.out.row hlu).mono ?_
      rintro e w1 ⟨rfl, ys, hperm, hsort, hrow, hgr⟩
      obtain rfl := cnt_unique hperm hsort
      have HG1 := Lib.hid (HG.out.sorted hgr hrow)
      clear hperm hsort hrow hgr y0 hlu q HG
      have HG2 := Lib.hid (G2.start HG1.out)
      clear HG1
      rw [HCL.out] at HG2
      have HC2 := Lib.hid (show (cnt l).length ≤ 1000000 from Nat.le_trans (cnt_len l) HN.out)
      rw [HCL.out]
      generalize hC : cnt l = C at HG2 HCL HC2 ⊢
      have HCE := Lib.hid hC
      clear hC
      generalize w1.heap.size = B at HG2
      have y0 : w1.cell? ⟨w.heap.size + 1 + 1 + 1, 0, none⟩ = some (.slice Av C.length cv) := (blk_cell HG2.out.fam 0).trans rfl
      go_wp2
      clear y0
      go_loopw [9, 46] (fun _ i wr => ∃ k : Nat, k ≤ C.length ∧ i = .int .i64 k ∧ Hid (G2 w wr w.heap.size B (uq l) C (.slice Av C.length cv) (C.take k))) (fun _ i _ => C.length - (intOf i).toNat)
      case atStart => exact ⟨0, by omega, rfl, HG2⟩
      case round =>
        clear HG2
        obtain ⟨k, hk, rfl, HG⟩ := hrel
        by_cases hlt : k < C.length
        · obtain ⟨s, hs⟩ : ∃ s, C[k]? = some s := ⟨_, List.getElem?_eq_getElem hlt⟩
          obtain ⟨ad, rfl, x0, x1, x2, x3, x4, x5, x6, x7, x8, x9, x10⟩ := at_S (Kd.R_reads' HG.out.row).2.2 hs
          have HTk := Lib.hid (show C.take (k + 1) = C.take k ++ [s] by
            obtain ⟨hk2, e⟩ := List.getElem?_eq_some_iff.1 hs
            rw [List.take_succ_eq_append_getElem hk2, e])
          have q : (k : Int) < (C.length : Int) := by omega
          have HK := Lib.hid (show k + 1 ≤ C.length by omega)
          have HW := Lib.hid (show wrap64 ((k : Int) + 1) = ((k + 1 : Nat) : Int) by have := HC2.out; unfold wrap64; omega)
          have hz := below_alloc (Below.refl wr.heap.size wr) (.cells (encS s).toArray 38)
          obtain ⟨es, clk, f, hm0, hmo, hkids⟩ := HG.out.m2
          have HMO := Lib.hid hmo
          have HZB := Lib.hid (show ∀ b, ((f s.par).getD (.slice none 0 0)).ownBlock = some b → B ≤ b ∧ b < wr.heap.size from fun b hb => by
            obtain ⟨_, inner, ho, _⟩ := hkids.get s.par
            exact ⟨own_base ho b hb, own_lt ho b hb⟩)
          have HM0 := Lib.hid (block_below hm0 hz)
          have HKI := Lib.hid (hkids.below hz)
          clear hm0 hmo hkids
          have HGx := Lib.hid (HG.out.next hz)
          have KS := Lib.hid (heap_alloc_new wr (.cells (encS s).toArray 38))
          have HSQ := Lib.hid (show wr.heap.size + 1 ≤ (wr.alloc (.cells (encS s).toArray 38)).heap.size by simp)
          rw [arr_S] at HGx KS HSQ HM0 HKI
          clear hs hlt hk hz
          go_upto_region 14 with (fail)
          clear x0 x1 x2 x3 x4 x5 x6 x7 x8 x9 x10 q
          generalize (wr.alloc (.cells #[.int .u64 s.tr, .int .u64 s.id, .int .u64 s.par, .string s.svc, .string s.op, .int .i64 s.st, .int .i64 s.du, .int .i64 s.stt, .slice s.a.1 s.a.2.1 s.a.2.2, .slice s.e.1 s.e.2.1 s.e.2.2, .slice s.l.1 s.l.2.1 s.l.2.2] 38)) = w2 at HGx KS HSQ HM0 HKI ⊢
          generalize (Value.agg #[.int .u64 s.tr, .int .u64 s.id, .int .u64 s.par, .string s.svc, .string s.op, .int .i64 s.st, .int .i64 s.du, .int .i64 s.stt, .slice s.a.1 s.a.2.1 s.a.2.2, .slice s.e.1 s.e.2.1 s.e.2.2, .slice s.l.1 s.l.2.1 s.l.2.2]) = junk1
          have hgd := HGx.out.next (below_drew (Below.refl w2.heap.size w2))
          have ksd := blk_drew KS.out
          have hm0 := block_below HM0.out (below_drew (Below.refl w2.heap.size w2))
          have HKI2 := Lib.hid (HKI.out.below (below_drew (Below.refl w2.heap.size w2)))
          clear HKI
          have HKI := HKI2
          clear HKI2
          have hmo := HMO.out
          obtain ⟨Az, cz, hz⟩ := Kd.R_slice (HKI.out.get s.par)
          have HZ := Lib.hid hz
          have hlk : ∀ W : World, W.heap[w.heap.size + 1 + 1]? = some (.map es clk) → (Instr.lookup 45 (.map (some (w.heap.size + 1 + 1))) (.int .u64 s.par) false).run Try.prog W = .ok (.slice Az (kidsOf (C.take k) s.par).length cz) W := fun W hW => by
            have h := run_look1 (mkey_int .u64) Try.underlying45 Try.underlying33 (.slice none 0 0) W (Try.zeroValue22 W) hW hmo s.par
            rw [hz] at h
            exact h
          have HLK := Lib.hid hlk
          have c2x : w2.drew.cell? ⟨w.heap.size + 1 + 1 + 1, 2, none⟩ = some (.map (some (w.heap.size + 1 + 1))) := (blk_cell hgd.fam 2).trans rfl
          obtain ⟨c0, c1, c2, c3, c4, c5, c6, c7, c8, c9, c10⟩ := blkS (s := s) ksd
          have c11 := hlk w2.drew hm0
          clear hmo hz hlk
          refine start_ (n := 13) (S := fun w' => w'.cell? ⟨w.heap.size + 1 + 1 + 1, 2, none⟩ = some (.map (some (w.heap.size + 1 + 1))) ∧ w'.cell? ⟨wr.heap.size, 0, none⟩ = some (.int .u64 s.tr) ∧ w'.cell? ⟨wr.heap.size, 1, none⟩ = some (.int .u64 s.id) ∧ w'.cell? ⟨wr.heap.size, 2, none⟩ = some (.int .u64 s.par) ∧ w'.cell? ⟨wr.heap.size, 3, none⟩ = some (.string s.svc) ∧ w'.cell? ⟨wr.heap.size, 4, none⟩ = some (.string s.op) ∧ w'.cell? ⟨wr.heap.size, 5, none⟩ = some (.int .i64 s.st) ∧ w'.cell? ⟨wr.heap.size, 6, none⟩ = some (.int .i64 s.du) ∧ w'.cell? ⟨wr.heap.size, 7, none⟩ = some (.int .i64 s.stt) ∧ w'.cell? ⟨wr.heap.size, 8, none⟩ = some (.slice s.a.1 s.a.2.1 s.a.2.2) ∧ w'.cell? ⟨wr.heap.size, 9, none⟩ = some (.slice s.e.1 s.e.2.1 s.e.2.2) ∧ w'.cell? ⟨wr.heap.size, 10, none⟩ = some (.slice s.l.1 s.l.2.1 s.l.2.2) ∧ (Instr.lookup 45 (.map (some (w.heap.size + 1 + 1))) (.int .u64 s.par) false).run Try.prog w' = .ok (.slice Az (kidsOf (C.take k) s.par).length cz) w') (ds := [12]) #[false, false, false, false, false, false, false, false, false, false, false, false, false] (by kernel_rfl) rfl rfl ⟨c2x, c0, c1, c2, c3, c4, c5, c6, c7, c8, c9, c10, c11⟩ (fun hHeld => ?_)
          generalize hw5 : w2.drew = w5 at hgd ksd hm0 HKI hHeld ⊢
          have HSQ5 := Lib.hid (show wr.heap.size + 1 ≤ w5.heap.size by rw [← hw5]; exact HSQ.out)
          have HG5 := Lib.hid hgd
          have K5 := Lib.hid ksd
          have HM5 := Lib.hid hm0
          clear hw5 hgd ksd hm0 c2x c0 c1 c2 c3 c4 c5 c6 c7 c8 c9 c10 c11
          refine pure_ (i := 0) (N := some 50) (v := ?_) (a' := ?_) #[true, false, false, false, false, false, false, false, false, false, false, false, false] rfl rfl (by kernel_rfl) (fun _ _ _ h => h) (Or.inl ⟨by rfl, ?_⟩) ?_ ?_
          rotate_left
          · intro w'
            go_simp
            with_reducible rfl
          rotate_left
          · simp only [Act.put, List.setIfInBounds_toArray, List.set_cons_zero, List.set_cons_succ, i64_w, i32_w]
            rfl
          refine pure_ (i := 2) (N := some 52) (v := ?_) (a' := ?_) #[true, false, true, false, false, false, false, false, false, false, false, false, false] rfl rfl (by kernel_rfl) (fun _ _ _ h => h) (Or.inl ⟨by rfl, ?_⟩) ?_ ?_
          rotate_left
          · intro w'
            go_simp
            with_reducible rfl
          rotate_left
          · simp only [Act.put, List.setIfInBounds_toArray, List.set_cons_zero, List.set_cons_succ, i64_w, i32_w]
            rfl
          refine pure_ (i := 4) (N := some 54) (v := ?_) (a' := ?_) #[true, false, true, false, true, false, false, false, false, false, false, false, false] rfl rfl (by kernel_rfl) (fun _ _ _ h => h) (Or.inl ⟨by rfl, ?_⟩) ?_ ?_
          rotate_left
          · intro w'
            go_simp
            with_reducible rfl
          rotate_left
          · simp only [Act.put, List.setIfInBounds_toArray, List.set_cons_zero, List.set_cons_succ, i64_w, i32_w]
            rfl
          refine pure_ (i := 6) (N := some 56) (v := ?_) (a' := ?_) #[true, false, true, false, true, false, true, false, false, false, false, false, false] rfl rfl (by kernel_rfl) (fun _ _ _ h => h) (Or.inl ⟨by rfl, ?_⟩) ?_ ?_
          rotate_left
          · intro w'
            go_simp
            with_reducible rfl
          rotate_left
          · simp only [Act.put, List.setIfInBounds_toArray, List.set_cons_zero, List.set_cons_succ, i64_w, i32_w]
            rfl
          refine take_ (i := 1) (N := some 51) (v := ?_) (a' := ?_) #[true, true, true, false, true, false, true, false, false, false, false, false, false] rfl rfl (by kernel_rfl) (fun _ _ _ h => h) (Or.inl ⟨by rfl, ?_⟩) hHeld ?_ ?_
          rotate_left
          · rintro w' ⟨s0, s1, s2, s3, s4, s5, s6, s7, s8, s9, s10, s11, s12⟩
            go_simp
            with_reducible rfl
          rotate_left
          · simp only [Act.put, List.setIfInBounds_toArray, List.set_cons_zero, List.set_cons_succ, i64_w, i32_w]
            rfl
          refine take_ (i := 3) (N := some 53) (v := ?_) (a' := ?_) #[true, true, true, true, true, false, true, false, false, false, false, false, false] rfl rfl (by kernel_rfl) (fun _ _ _ h => h) (Or.inl ⟨by rfl, ?_⟩) hHeld ?_ ?_
          rotate_left
          · rintro w' ⟨s0, s1, s2, s3, s4, s5, s6, s7, s8, s9, s10, s11, s12⟩
            go_simp
            with_reducible rfl
          rotate_left
          · simp only [Act.put, List.setIfInBounds_toArray, List.set_cons_zero, List.set_cons_succ, i64_w, i32_w]
            rfl
          refine take_ (i := 5) (N := some 55) (v := ?_) (a' := ?_) #[true, true, true, true, true, true, true, false, false, false, false, false, false] rfl rfl (by kernel_rfl) (fun _ _ _ h => h) (Or.inl ⟨by rfl, ?_⟩) hHeld ?_ ?_
          rotate_left
          · rintro w' ⟨s0, s1, s2, s3, s4, s5, s6, s7, s8, s9, s10, s11, s12⟩
            go_simp
            with_reducible rfl
          rotate_left
          · simp only [Act.put, List.setIfInBounds_toArray, List.set_cons_zero, List.set_cons_succ, i64_w, i32_w]
            rfl
          refine take_ (i := 7) (N := some 57) (v := ?_) (a' := ?_) #[true, true, true, true, true, true, true, true, false, false, false, false, false] rfl rfl (by kernel_rfl) (fun _ _ _ h => h) (Or.inl ⟨by rfl, ?_⟩) hHeld ?_ ?_
          rotate_left
          · rintro w' ⟨s0, s1, s2, s3, s4, s5, s6, s7, s8, s9, s10, s11, s12⟩
            go_simp
            with_reducible rfl
          rotate_left
          · simp only [Act.put, List.setIfInBounds_toArray, List.set_cons_zero, List.set_cons_succ, i64_w, i32_w]
            rfl
          refine take_ (i := 8) (N := some 58) (v := ?_) (a' := ?_) #[true, true, true, true, true, true, true, true, true, false, false, false, false] rfl rfl (by kernel_rfl) (fun _ _ _ h => h) (Or.inl ⟨by rfl, ?_⟩) hHeld ?_ ?_
          rotate_left
          · rintro w' ⟨s0, s1, s2, s3, s4, s5, s6, s7, s8, s9, s10, s11, s12⟩
            go_simp
            with_reducible rfl
          rotate_left
          · simp only [Act.put, List.setIfInBounds_toArray, List.set_cons_zero, List.set_cons_succ, i64_w, i32_w]
            rfl
          refine take_ (i := 9) (N := some 59) (v := ?_) (a' := ?_) #[true, true, true, true, true, true, true, true, true, true, false, false, false] rfl rfl (by kernel_rfl) (fun _ _ _ h => h) (Or.inl ⟨by rfl, ?_⟩) hHeld ?_ ?_
          rotate_left
          · rintro w' ⟨s0, s1, s2, s3, s4, s5, s6, s7, s8, s9, s10, s11, s12⟩
            go_simp
            with_reducible rfl
          rotate_left
          · simp only [Act.put, List.setIfInBounds_toArray, List.set_cons_zero, List.set_cons_succ, i64_w, i32_w]
            rfl
          refine one_ (i := 10) (N := some 60) #[true, true, true, true, true, true, true, true, true, true, true, false, false] rfl rfl (by kernel_rfl) (by decide) (fun K hK => ?_)
          refine Kd.R_lit_step kS (w0 := w5) B 38 ?hg (N := 60) ?hd (xs := [s]) (inner := encS s) (ok := fun _ => True) (okp := fun _ => True) ?hr ?hp (fun _ hk => hk) trivial (Below.refl _ _) HG5.out.size (by simp) ?_; (case hd => rfl); (case hg => rfl); (case hr => first | (go_simp; done) | (go_simp; rfl)); (case hp => exact reps_S _ _ _ _)
          intro v6 w6 ho hb hg_ hnew_
          obtain ⟨A6, c6, rfl⟩ := Kd.R_slice ho
          have HO6 := Lib.hid (Kd.R_reads' ho).2.2
          have hb' : Below w5.heap.size w5 w6 := Below.grown (Below.refl _ _) hg_ (Nat.le_refl _) (fun _ h => by cases h)
          have HB6 := Lib.hid hb'
          have HM6 := Lib.hid (block_below HM5.out hb')
          clear ho hb hg_ hnew_ hb'
          refine hK.out _ _ ⟨(blk_cell (HG5.out.next HB6.out).fam 2).trans rfl, (blk_cell (block_below K5.out HB6.out) 0).trans rfl, (blk_cell (block_below K5.out HB6.out) 1).trans rfl, (blk_cell (block_below K5.out HB6.out) 2).trans rfl, (blk_cell (block_below K5.out HB6.out) 3).trans rfl, (blk_cell (block_below K5.out HB6.out) 4).trans rfl, (blk_cell (block_below K5.out HB6.out) 5).trans rfl, (blk_cell (block_below K5.out HB6.out) 6).trans rfl, (blk_cell (block_below K5.out HB6.out) 7).trans rfl, (blk_cell (block_below K5.out HB6.out) 8).trans rfl, (blk_cell (block_below K5.out HB6.out) 9).trans rfl, (blk_cell (block_below K5.out HB6.out) 10).trans rfl, HLK.out w6 HM6.out⟩ (fun hHeld => ?_)
          clear hK K
          refine norm_ (a' := ?_) ?_ ?_
          rotate_left
          · show Act.put _ (some 60) _ = _
            simp only [Act.put, List.setIfInBounds_toArray, List.set_cons_zero, List.set_cons_succ, i64_w, i32_w]
            rfl
          refine one_ (i := 11) (N := some 61) #[true, true, true, true, true, true, true, true, true, true, true, true, false] rfl rfl (by kernel_rfl) (by decide) (fun K hK => ?_)
          refine Kd.R_append_rows_step kS (w0 := w6) B (by rfl) (.tmp 58) (.tmp 60) 22 38 (.agg #[(.int .u64 0), (.int .u64 0), (.int .u64 0), (.string ⟨#[]⟩), (.string ⟨#[]⟩), (.int .i64 0), (.int .i64 0), (.int .i64 0), (.slice none 0 0), (.slice none 0 0), (.slice none 0 0)]) 152 (by rfl) Try.underlying22 infoS rfl (by decide) (by omega) (.slice Az (kidsOf (C.take k) s.par).length cz) (kidsOf (C.take k) s.par) [s] A6 1 c6 (fun _ => True) (fun _ => False) (by rfl) (by rfl) (by rw [← HZ.out]; exact Kd.R_below (HKI.out.get s.par) HB6.out) HO6.out (fun x_ cs_ h_ => h_) (fun _ h => h.elim) (fun _ _ => trivial) (Below.refl _ _) (Nat.le_trans HG5.out.size HB6.out.size) (by have h1 : (kidsOf (C.take k) s.par).length ≤ C.length := Nat.le_trans (List.length_filter_le _ _) (by rw [List.length_take]; omega); have h2 := HC2.out; have h3 : [s].length = 1 := rfl; omega) ?_
          intro v7 w7 ho hb hg_ hnew_
          obtain ⟨A7, c7, rfl⟩ := Kd.R_slice ho
          rw [show (kidsOf (C.take k) s.par ++ [s]).length = (kidsOf (C.take k) s.par).length + 1 by simp] at ho hnew_
          have HO7 := Lib.hid ho
          have HN7 := Lib.hid hnew_
          have HG7 := Lib.hid hg_
          have hm7 : w7.heap[w.heap.size + 1 + 1]? = some (.map es clk) := blk_grown HM6.out hg_ (fun e => by have h1 := HZB.out (w.heap.size + 1 + 1) (by rw [HZ.out]; exact e.symm); have h2 := HG5.out.nB; omega)
          obtain ⟨es3, clk3, hput, hmo3, _⟩ := run_put (P := Try.prog) (mkey_int .u64) Try.underlying45 Try.underlying33 w7 hm7 HMO.out s.par (.slice A7 ((kidsOf (C.take k) s.par).length + 1) c7)
          have HMO3 := Lib.hid hmo3
          have hne : ∀ b, b < B ∨ wr.heap.size ≤ b → ¬ some b = (Value.slice Az (kidsOf (C.take k) s.par).length cz).ownBlock := fun b hb e => (by have h1 := HZB.out b (by rw [HZ.out]; exact e.symm); omega)
          have K7 := Lib.hid (blk_grown (block_below K5.out HB6.out) hg_ (hne _ (.inr (Nat.le_refl _))))
          have F7 := Lib.hid (blk_grown (HG5.out.next HB6.out).fam hg_ (hne _ (.inl (by have := HG5.out.nB; omega))))
          have HM7 := Lib.hid hm7
          clear ho hb hg_ hnew_ hm7 hmo3 hne
          refine hK.out _ _ ⟨(blk_cell F7.out 2).trans rfl, (blk_cell K7.out 0).trans rfl, (blk_cell K7.out 1).trans rfl, (blk_cell K7.out 2).trans rfl, (blk_cell K7.out 3).trans rfl, (blk_cell K7.out 4).trans rfl, (blk_cell K7.out 5).trans rfl, (blk_cell K7.out 6).trans rfl, (blk_cell K7.out 7).trans rfl, (blk_cell K7.out 8).trans rfl, (blk_cell K7.out 9).trans rfl, (blk_cell K7.out 10).trans rfl, HLK.out w7 HM7.out⟩ (fun hHeld => ?_)
          clear hK K
          refine norm_ (a' := ?_) ?_ ?_
          rotate_left
          · show Act.put _ (some 61) _ = _
            simp only [Act.put, List.setIfInBounds_toArray, List.set_cons_zero, List.set_cons_succ, i64_w, i32_w]
            rfl
          refine last_ (i := 12) (N := none) #[true, true, true, true, true, true, true, true, true, true, true, true, true] rfl rfl (by kernel_rfl) (by decide) (fun K hK => ?_)
          refine skip_ (w1 := ?_) (by rfl) rfl ?_ ?_
          rotate_left
          · go_simp
            rfl
          refine hK.out _ _ ?_
          clear hK K
          refine done_ (by kernel_rfl) ?_
          have HG8 := Lib.hid ((HG5.out.next HB6.out).app HM6.out HMO.out (HKI.out.below HB6.out) HZ.out HG7.out HO7.out HN7.out HMO3.out)
          rw [← HTk.out] at HG8
          go_wp2
          go_roundw
          case rel => exact ⟨k + 1, HK.out, by rw [HW.out], HG8⟩
          case measure => exact meas_up HC2.out HK.out
        · have hkl : k = C.length := by omega
          subst hkl
          have q : decide ((C.length : Int) < (C.length : Int)) = false := decide_eq_false (by omega)
          rw [List.take_length] at HG
          have y0 : wr.cell? ⟨w.heap.size + 1 + 1 + 1, 0, none⟩ = some (.slice Av C.length cv) := (blk_cell HG.out.fam 0).trans rfl
          have y1 : wr.cell? ⟨w.heap.size + 1 + 1 + 1, 1, none⟩ = some (.map (some (w.heap.size + 1))) := (blk_cell HG.out.fam 1).trans rfl
          have y2 : wr.cell? ⟨w.heap.size + 1 + 1 + 1, 2, none⟩ = some (.map (some (w.heap.size + 1 + 1))) := (blk_cell HG.out.fam 2).trans rfl
          have z0 : wr.cell? ⟨w.heap.size, 0, none⟩ = some (.slice none 0 0) := (blk_cell HG.out.res 0).trans rfl
          have z1 : wr.cell? ⟨w.heap.size, 1, none⟩ = some (.map none) := (blk_cell HG.out.res 1).trans rfl
          have z2 : wr.cell? ⟨w.heap.size, 2, none⟩ = some (.map none) := (blk_cell HG.out.res 2).trans rfl
          have f0 := blk_frozen HG.out.res 0
          have f1 := blk_frozen HG.out.res 1
          have f2 := blk_frozen HG.out.res 2
          clear hlt hk
          go_wp2
          have hi : (Try.prog.info? 47).map (·.size) = some 3 := by kernel_rfl
          have hb := blk_set (blk_set (blk_set HG.out.res 0 (.slice Av C.length cv)) 1 (.map (some (w.heap.size + 1)))) 2 (.map (some (w.heap.size + 1 + 1)))
          refine bodyPost_ret (v := .agg _) (results_cell_row rfl _ _ w.heap.size 47 _ (0, 0) _ rfl hb Try.underlying47 rfl hi) rfl ⟨.slice Av C.length cv, w.heap.size + 1, w.heap.size + 1 + 1, rfl, ?_, ?_⟩
          · rw [HCE.out]
            simp only [World.size_setCell]
            refine (HG.out.fam_.move fun k h1 h2 => ?_).lower (by omega)
            rw [Below.heap_setCell _ _ _ _ (by show k ≠ w.heap.size; omega), Below.heap_setCell _ _ _ _ (by show k ≠ w.heap.size; omega), Below.heap_setCell _ _ _ _ (by show k ≠ w.heap.size; omega)]
          · exact below_set (below_set (below_set HG.out.bw (Nat.le_refl _)) (Nat.le_refl _)) (Nat.le_refl _)

end Go.Proofs.Ytoigebnhnkdbbaa.Tr
