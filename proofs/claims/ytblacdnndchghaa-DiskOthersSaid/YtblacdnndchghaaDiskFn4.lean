/- The disks' Waiting: contracts by hand. -/
import Derived.Test.YtblacdnndchghaaDiskFn3
namespace Go.Proofs.Ytblacdnndchghaa.D
open Go.RowKit Go.Proofs.YtblacdnndchghaaW.PrintWords Go.Proofs.YtblacdnndchghaaW.PrintLast Go.Proofs.YtblacdnndchghaaW.PrintMore Go.Proofs.Ytblacdnndchghaa.Math Go.Proofs.Ytblacdnndchghaa.PAll
open Go.ChangeMaps (setBlock)
set_option linter.unusedVariables false
set_option linter.unusedSimpArgs false

theorem info_int : (Try.prog.info? 3).map (fun i => (i.zero, i.size, i.bytes)) = some (some (.int .i64 0), 1, 8) := by kernel_rfl
/-- What waits: where it lies. -/
theorem Rows.at_w {TW : TypeId} {w : World} {B : Nat} {vS vW : Value} {Sl : List (Value × List Int)} {Wl : List (Int × Value × List Int)} (h : Rows TW w B vS vW Sl Wl) (k : Nat) (hk : k < Wl.length) :
    ∃ g c, vW = .slice (some ⟨g, 0, none⟩) Wl.length c ∧ w.cell? ⟨g, k * 2, none⟩ = some (.int .i64 (Wl[k]'hk).1) ∧ w.cell? ⟨g, k * 2 + 1, none⟩ = some (Wl[k]'hk).2.1 := by
  obtain ⟨g, c, hv, _, _, hc⟩ := own_at h.w_ (by omega)
  have hg := wc_get Wl k _ (List.getElem?_eq_getElem hk)
  rw [Nat.mul_comm 2 k] at hg
  exact ⟨g, c, hv, hc _ _ hg.1, hc _ _ hg.2⟩
def nos (Wl : List (Int × Value × List Int)) : List Int := Wl.map fun x => x.1
theorem nos_take {Wl : List (Int × Value × List Int)} {k : Nat} (hk : k < Wl.length) : nos (Wl.take (k + 1)) = nos (Wl.take k) ++ [(Wl[k]'hk).1] := by
  unfold nos
  rw [List.take_add_one, List.getElem?_eq_getElem hk, List.map_append]
  rfl
theorem cell_two (w : World) (o : Obj) (x : Value) (t : TypeId) : ∀ j u, [x][j]? = some u → ((w.alloc o).alloc (.cells #[x] t)).cell? ((⟨w.heap.size + 1, 0, none⟩ : Addr).add j) = some u := by
  have := cell_one_new (w.alloc o) x t
  simpa using this
theorem own_R {k : IntKind} {w : World} {b e n : Nat} {v : Value} {xs : List Int} (h : w.ownsRow b e 1 v n (nums k xs)) (hn : n = xs.length) : Kd.R (Kd.int k) e w b (fun _ => True) v xs := by
  subst hn
  exact Kd.R_of_own h (fun _ _ => trivial)
set_option maxHeartbeats 4000000 in
theorem waiting_calls {w : World} {B p gm : Nat} {vS vW : Value} {s : St} (h : DSt w B p gm vS vW s) (hlen : s.W.length ≤ 1000000) :
    Calls Try.prog 24 #[.pointer (some ⟨p, 0, none⟩)] w fun e w' => ∃ v, e = .returned v ∧ Kd.R (Kd.int .i64) 3 w' w.heap.size (fun _ => True) v (s.W.map fun x => x.1) ∧ Below w.heap.size w w' := by
  obtain ⟨Sl, Wl, es, clk, e1, e2, hr, hm, hok⟩ := h.body
  have k1 : w.cell? ⟨p, 1, none⟩ = some vW := (blk_cell h.blk 1).trans rfl
  have hws : s.W.map (fun x => x.1) = nos Wl := by rw [e2, List.map_map]; rfl
  have hwl : Wl.length ≤ 1000000 := by rw [e2, List.length_map] at hlen; exact hlen
  rw [hws]
  obtain ⟨A, c, hv, hc⟩ := own_sl hr.w_
  have HR := Lib.hid hr
  have HV := Lib.hid hv
  have HWL := Lib.hid hwl
  rw [hv] at k1
  have hlt : Wl.length ≤ 1000000 := hwl
  clear h hr hm hok e1 e2 hws hwl hv hlen
  obtain ⟨i0, hi0, hz0, hz1, hz2⟩ := info_parts info_int
  go_enter Try.func24, Try.ntmps24
  go_wp2
  go_loopw [3, 11] (fun v i wr => ∃ k : Nat, k ≤ Wl.length ∧ i = .int .i64 k ∧ Hid (wr.ownsRow w.heap.size 3 1 v k (nums .i64 (nos (Wl.take k)))) ∧ Hid (Below w.heap.size w wr)) (fun _ i _ => Wl.length - (intOf i).toNat)
  case atStart => exact ⟨0, Nat.zero_le _, rfl, Lib.hid (by simpa [nos, nums] using own_nil w w.heap.size 3 1), Lib.hid (Below.refl _ _)⟩
  case round =>
    obtain ⟨k, hk, rfl, HO, HB⟩ := hrel
    by_cases hlt : k < Wl.length
    · obtain ⟨g, c', hv2, hc0, hc1⟩ := HR.out.at_w k hlt
      have hvv := HV.out
      rw [hv2] at hvv
      injection hvv with hA _ hcc
      subst hA
      have q : (k : Int) < (Wl.length : Int) := by omega
      have d : decide ((k : Int) < (Wl.length : Int)) = true := decide_eq_true q
      have z0 : wr.cell? ⟨g, k * 2, none⟩ = some (.int .i64 (Wl[k]'hlt).1) := (HB.out.cell (World.block_lt_of_cell? w _ hc0)).trans hc0
      have z1 : wr.cell? ⟨g, k * 2 + 1, none⟩ = some (Wl[k]'hlt).2.1 := (HB.out.cell (World.block_lt_of_cell? w _ hc1)).trans hc1
      obtain ⟨Av, cv, hvp, _, _⟩ := (HR.out.wp _ (List.getElem_mem hlt)).reads
      rw [hvp] at z1
      have HN := Lib.hid (nos_take hlt)
      generalize (Wl[k]'hlt).1 = no at z0 HN
      generalize (Wl[k]'hlt).2.2.length = nb at z1
      clear hc0 hc1 hv2 hvp hcc
      have hw : wrap64 ((k : Int) + 1) = ((k + 1 : Nat) : Int) := by unfold wrap64; omega
      go_wp2_with (first
        | (at_builtin
           refine wpList_append_own_at _ rfl _ _ 47 rfl w.heap.size 3 i0 (.int .i64 0) 1 8 Try.underlying47 hi0 hz0 hz1 hz2 rfl (by decide) _ k _ rfl ((HO.out.alloc _).alloc _) ⟨wr.heap.size + 1, 0, none⟩ 1 1 [.int .i64 no] rfl rfl (cell_two _ _ _ _) (fun x hx => by simp at hx; rcases hx with rfl; rfl) (by have := HWL.out; unfold maxLen; omega) (by have := HWL.out; omega) (by have := HB.out.size; simp; omega) ?_
           intro v2 w2 ho2 hg2 hn2 hf2
           have HO2 := Lib.hid ho2
           have HB2 := Lib.hid ((below_alloc (below_alloc HB.out _) _).grown hg2 (by have := HB.out.size; simp; omega) (own_base HO.out))
           clear ho2 hg2 hn2 hf2)
        | fail)
      go_roundw
      case rel => exact ⟨k + 1, by omega, by go_num, Lib.hid (by rw [HN.out]; simpa [nums] using HO2.out), HB2⟩
      case measure => simp [intOf]; omega
    · have hk2 : k = Wl.length := by omega
      subst hk2
      have d : decide ((Wl.length : Int) < (Wl.length : Int)) = false := decide_eq_false (by omega)
      have HF := Lib.hid (own_R HO.out (by simp [nos]))
      rw [List.take_length] at HF
      go_wp2
      go_ret
      exact ⟨_, rfl, HF.out, HB.out⟩

set_option maxHeartbeats 4000000 in
theorem waitingR_calls {w : World} {B p : Nat} {vS vW : Value} {s : St} (h : RSt w B p vS vW s) (hlen : s.W.length ≤ 1000000) :
    Calls Try.prog 29 #[.pointer (some ⟨p, 0, none⟩)] w fun e w' => ∃ v, e = .returned v ∧ Kd.R (Kd.int .i64) 3 w' w.heap.size (fun _ => True) v (s.W.map fun x => x.1) ∧ Below w.heap.size w w' := by
  obtain ⟨Sl, Wl, e1, e2, hr⟩ := h.body
  have k1 : w.cell? ⟨p, 1, none⟩ = some vW := (blk_cell h.blk 1).trans rfl
  have hws : s.W.map (fun x => x.1) = nos Wl := by rw [e2, List.map_map]; rfl
  have hwl : Wl.length ≤ 1000000 := by rw [e2, List.length_map] at hlen; exact hlen
  rw [hws]
  obtain ⟨A, c, hv, hc⟩ := own_sl hr.w_
  have HR := Lib.hid hr
  have HV := Lib.hid hv
  have HWL := Lib.hid hwl
  rw [hv] at k1
  have hlt : Wl.length ≤ 1000000 := hwl
  have HK := Lib.hid k1
  clear h hr e1 e2 hws hwl hv hlen k1
  obtain ⟨i0, hi0, hz0, hz1, hz2⟩ := info_parts info_int
  go_enter Try.func29, Try.ntmps29
  go_wp2
  go_loopw [3, 4] (fun v i wr => ∃ k : Nat, k ≤ Wl.length ∧ i = .int .i64 k ∧ Hid (wr.ownsRow w.heap.size 3 1 v k (nums .i64 (nos (Wl.take k)))) ∧ Hid (Below w.heap.size w wr)) (fun _ i _ => Wl.length - (intOf i).toNat)
  case atStart => exact ⟨0, Nat.zero_le _, rfl, Lib.hid (by simpa [nos, nums] using own_nil w w.heap.size 3 1), Lib.hid (Below.refl _ _)⟩
  case round =>
    obtain ⟨k, hk, rfl, HO, HB⟩ := hrel
    have kr : wr.cell? ⟨p, 1, none⟩ = some (.slice A Wl.length c) := (HB.out.cell (World.block_lt_of_cell? w _ HK.out)).trans HK.out
    by_cases hlt : k < Wl.length
    · obtain ⟨g, c', hv2, hc0, hc1⟩ := HR.out.at_w k hlt
      have hvv := HV.out
      rw [hv2] at hvv
      injection hvv with hA _ hcc
      subst hA
      have q : (k : Int) < (Wl.length : Int) := by omega
      have d : decide ((k : Int) < (Wl.length : Int)) = true := decide_eq_true q
      have z0 : wr.cell? ⟨g, k * 2, none⟩ = some (.int .i64 (Wl[k]'hlt).1) := (HB.out.cell (World.block_lt_of_cell? w _ hc0)).trans hc0
      have HN := Lib.hid (nos_take hlt)
      generalize (Wl[k]'hlt).1 = no at z0 HN
      clear hc0 hc1 hv2 hcc
      have hw : wrap64 ((k : Int) + 1) = ((k + 1 : Nat) : Int) := by unfold wrap64; omega
      go_wp2_with (first
        | (at_builtin
           refine wpList_append_own_at _ rfl _ _ 47 rfl w.heap.size 3 i0 (.int .i64 0) 1 8 Try.underlying47 hi0 hz0 hz1 hz2 rfl (by decide) _ k _ rfl (HO.out.alloc _) ⟨wr.heap.size, 0, none⟩ 1 1 [.int .i64 no] rfl rfl (cell_one_new _ _ _) (fun x hx => by simp at hx; rcases hx with rfl; rfl) (by have := HWL.out; unfold maxLen; omega) (by have := HWL.out; omega) (by have := HB.out.size; simp; omega) ?_
           intro v2 w2 ho2 hg2 hn2 hf2
           have HO2 := Lib.hid ho2
           have HB2 := Lib.hid ((below_alloc HB.out _).grown hg2 (by have := HB.out.size; simp; omega) (own_base HO.out))
           clear ho2 hg2 hn2 hf2)
        | fail)
      go_roundw
      case rel => exact ⟨k + 1, by omega, by go_num, Lib.hid (by rw [HN.out]; simpa [nums] using HO2.out), HB2⟩
      case measure => simp [intOf]; omega
    · have hk2 : k = Wl.length := by omega
      subst hk2
      have d : decide ((Wl.length : Int) < (Wl.length : Int)) = false := decide_eq_false (by omega)
      have HF := Lib.hid (own_R HO.out (by simp [nos]))
      rw [List.take_length] at HF
      go_wp2
      go_ret
      exact ⟨_, rfl, HF.out, HB.out⟩
end Go.Proofs.Ytblacdnndchghaa.D
