/- The disks' methods rest, Read, Safe, Waiting: contracts by hand. -/
import Derived.Test.YtblacdnndchghaaDiskFn1
import Derived.Test.YtblacdnndchghaaExtClone
namespace Go.Proofs.Ytblacdnndchghaa.D
open Go.RowKit Go.Proofs.YtblacdnndchghaaW.PrintWords Go.Proofs.YtblacdnndchghaaW.PrintLast Go.Proofs.YtblacdnndchghaaW.PrintMore Go.Proofs.Ytblacdnndchghaa.Math Go.Proofs.Ytblacdnndchghaa.PAll
open Go.ChangeMaps (setBlock)
set_option linter.unusedVariables false
set_option linter.unusedSimpArgs false

abbrev nilS : Value := .slice none 0 0
theorem Rows.nilW {TW : TypeId} {w : World} {B : Nat} {vS vW : Value} {Sl : List (Value × List Int)} {Wl : List (Int × Value × List Int)} (h : Rows TW w B vS vW Sl Wl) : Rows TW w B vS nilS Sl [] :=
  ⟨h.s, own_nil _ _ _ _, h.sp, fun x hx => by simp at hx, fun x hx => by simp at hx⟩
theorem setBlock_get {w : World} {g : Nat} {o : Obj} (o' : Obj) (h : w.heap[g]? = some o) : (setBlock w g o').heap[g]? = some o' := (Go.MapKept.heap_set h).1
theorem DSt.rest {w : World} {B p gm : Nat} {vS vW : Value} {s : St} (h : DSt w B p gm vS vW s) (clk : Nat) :
    DSt (setBlock (w.setCell ⟨p, 1, none⟩ nilS) gm (.map #[] clk)) B p gm vS nilS { s with W := [] } ∧ Turn (DO p gm vS vW) w (setBlock (w.setCell ⟨p, 1, none⟩ nilS) gm (.map #[] clk)) := by
  obtain ⟨Sl, Wl, es, clk0, e1, e2, hr, hm, hok⟩ := h.body
  have t1 : Turn (fun k => k = p ∨ k = gm) w (w.setCell ⟨p, 1, none⟩ nilS) := Turn.set w p 1 _ (.inl rfl)
  have t2 : Turn (fun k => k = p ∨ k = gm) w (setBlock (w.setCell ⟨p, 1, none⟩ nilS) gm (.map #[] clk)) := t1.trans (Turn.setBlk (O := fun k => k = p ∨ k = gm) _ gm _ (.inr rfl)) (fun k hk => .inl hk)
  have hmp : gm ≠ p := fun e => sepm h.blk hm e.symm
  have hb1 := blk_set h.blk 1 nilS
  have hm1 := blk_turn (Turn.set (O := fun k => k = p) w p 1 nilS rfl) hm hmp
  have hb2 := blk_turn (Turn.setBlk (O := fun k => k = gm) _ gm (.map #[] clk) rfl) hb1 (fun e => hmp e.symm)
  refine ⟨⟨hb2, h.pb, h.left0, Sl, [], #[], clk, e1, rfl, (hr.turn t2 ?_ ?_ ?_).nilW, setBlock_get _ hm1, MOk.empty clk⟩, t2.mono fun k hk _ => hk.elim .inl (fun e => .inr (.inl e))⟩
  · exact fun k c hk e => h.pages k c hk (e.elim .inl (fun e => .inr (.inl e)))
  · rintro k hk (rfl | rfl)
    · obtain ⟨_, c2, h2⟩ := own_block hr.s hk
      exact sep h2 h.blk (by decide) rfl
    · obtain ⟨_, c2, h2⟩ := own_block hr.s hk
      exact sepm h2 hm rfl
  · rintro k hk (rfl | rfl)
    · obtain ⟨_, c2, h2⟩ := own_block hr.w_ hk
      exact sep h2 h.blk (by decide) rfl
    · obtain ⟨_, c2, h2⟩ := own_block hr.w_ hk
      exact sepm h2 hm rfl
set_option maxHeartbeats 1000000 in
theorem rest_calls {w : World} {B p gm : Nat} {vS vW : Value} {s : St} (h : DSt w B p gm vS vW s) :
    Calls Try.prog 34 #[.pointer (some ⟨p, 0, none⟩)] w fun e w' => e = .returned (.tuple #[]) ∧ DSt w' B p gm vS nilS { s with W := [] } ∧ Turn (DO p gm vS vW) w w' := by
  obtain ⟨Sl, Wl, es, clk, e1, e2, hr, hm, hok⟩ := h.body
  have hmp : gm ≠ p := fun e => sepm h.blk hm e.symm
  have k1 : w.cell? ⟨p, 1, none⟩ = some vW := (blk_cell h.blk 1).trans rfl
  have f1 := blk_frozen h.blk 1
  have hm1 := blk_turn (Turn.set (O := fun k => k = p) w p 1 nilS rfl) hm hmp
  have hb1 := blk_set h.blk 1 nilS
  have k2 : (w.setCell ⟨p, 1, none⟩ nilS).cell? ⟨p, 2, none⟩ = some (.map (some gm)) := (blk_cell hb1 2).trans rfl
  have hcl : ∀ ty, (Builtin.clear_ #[57] ty #[.map (some gm)]).run Try.prog (w.setCell ⟨p, 1, none⟩ nilS) = .ok (.tuple #[]) (setBlock (w.setCell ⟨p, 1, none⟩ nilS) gm (.map #[] clk)) := fun ty => run_clear Try.underlying57 _ hm1
  have HD := Lib.hid (h.rest clk)
  clear h hr hm hok e1 e2 hm1 hb1 hmp
  go_enter Try.func34, Try.ntmps34
  go_wp2
  go_end0
  exact ⟨rfl, HD.out.1, HD.out.2⟩

theorem DSt.page {w : World} {B p gm : Nat} {vS vW : Value} {s : St} (h : DSt w B p gm vS vW s) (no : Nat) (hn : no < s.S.length) :
    ∃ g c v, vS = .slice (some ⟨g, 0, none⟩) s.S.length c ∧ w.cell? ⟨g, no, none⟩ = some v ∧ Pg w B v (s.S.getD no []) := by
  obtain ⟨Sl, Wl, es, clk, e1, e2, hr, hm, hok⟩ := h.body
  have hl : s.S.length = Sl.length := by rw [e1, List.length_map]
  obtain ⟨g, c, hv, _, _, hc⟩ := own_at hr.s (by omega)
  refine ⟨g, c, (Sl[no]'(by omega)).1, by rw [hl]; exact hv, hc no _ (by rw [List.getElem?_map, List.getElem?_eq_getElem (by omega)]; rfl), ?_⟩
  have := hr.sp _ (List.getElem_mem (l := Sl) (n := no) (by omega))
  have e : s.S.getD no [] = (Sl[no]'(by omega)).2 := by rw [List.getD_eq_getElem?_getD, e1, List.getElem?_map, List.getElem?_eq_getElem (by omega)]; rfl
  rw [e]
  exact this
theorem RSt.page {w : World} {B p : Nat} {vS vW : Value} {s : St} (h : RSt w B p vS vW s) (no : Nat) (hn : no < s.S.length) :
    ∃ g c v, vS = .slice (some ⟨g, 0, none⟩) s.S.length c ∧ w.cell? ⟨g, no, none⟩ = some v ∧ Pg w B v (s.S.getD no []) := by
  obtain ⟨Sl, Wl, e1, e2, hr⟩ := h.body
  have hl : s.S.length = Sl.length := by rw [e1, List.length_map]
  obtain ⟨g, c, hv, _, _, hc⟩ := own_at hr.s (by omega)
  refine ⟨g, c, (Sl[no]'(by omega)).1, by rw [hl]; exact hv, hc no _ (by rw [List.getElem?_map, List.getElem?_eq_getElem (by omega)]; rfl), ?_⟩
  have := hr.sp _ (List.getElem_mem (l := Sl) (n := no) (by omega))
  have e : s.S.getD no [] = (Sl[no]'(by omega)).2 := by rw [List.getD_eq_getElem?_getD, e1, List.getElem?_map, List.getElem?_eq_getElem (by omega)]; rfl
  rw [e]
  exact this
/-- A row of bytes of the call's own, or none. -/
abbrev Made (w w' : World) (v : Value) (b : List Int) : Prop := Kd.R (Kd.int .u8) 5 w' w.heap.size (fun _ => True) v b ∧ Below w.heap.size w w'
theorem clone_pg {w : World} {B : Nat} {v : Value} {b : List Int} (h : Pg w B v b) : ∀ w1, Below w.heap.size w w1 → Calls Try.prog 31 #[v] w1 fun e w' => ∃ v', e = .returned v' ∧ Made w1 w' v' b := by
  intro w1 hb
  obtain ⟨A, c, rfl, hc, hC⟩ := h.reads
  exact bytes_Clone.calls A c b b w1 (Kd.C_below hC hb) hc (by unfold bytes_Clone.f; rw [if_pos (by have := h.1; omega)])
def safeP (s : St) (no : Int) : List Int := if 0 ≤ no ∧ no < s.S.length then s.S.getD no.toNat [] else []
set_option maxHeartbeats 2000000 in
theorem safe_calls {w : World} {B p gm : Nat} {vS vW : Value} {s : St} (h : DSt w B p gm vS vW s) (no : Int) :
    Calls Try.prog 18 #[.pointer (some ⟨p, 0, none⟩), .int .i64 no] w fun e w' => ∃ v, e = .returned v ∧ Made w w' v (safeP s no) := by
  have HT := Lib.hid (there_calls h no)
  unfold safeP
  by_cases hin : 0 ≤ no ∧ no < s.S.length
  · rw [if_pos hin]
    rw [decide_eq_true hin] at HT
    obtain ⟨g, c, v, hv, hcell, hpg⟩ := h.page no.toNat (by omega)
    have k0 : w.cell? ⟨p, 0, none⟩ = some (.slice (some ⟨g, 0, none⟩) s.S.length c) := by rw [← hv]; exact (blk_cell h.blk 0).trans rfl
    have HC := Lib.hid (clone_pg hpg w (Below.refl _ _))
    obtain ⟨h0, h1⟩ := hin
    obtain ⟨j, rfl⟩ := Int.eq_ofNat_of_zero_le h0
    rw [Int.toNat_natCast] at hcell HC
    rw [Int.toNat_natCast]
    clear hpg h hv
    go_enter Try.func18, Try.ntmps18
    go_wp2_with fail
    refine HT.out.mono ?_
    rintro e w1 ⟨rfl, rfl⟩
    go_wp2_with fail
    refine HC.out.mono ?_
    rintro e w1 ⟨v1, rfl, hm⟩
    have HM := Lib.hid hm
    clear hm
    go_wp2
    go_ret
    exact ⟨_, rfl, HM.out⟩
  · rw [if_neg hin]
    rw [decide_eq_false hin] at HT
    clear h hin
    go_enter Try.func18, Try.ntmps18
    go_wp2_with fail
    refine HT.out.mono ?_
    rintro e w1 ⟨rfl, rfl⟩
    go_wp2
    go_ret
    exact ⟨_, rfl, Kd.R_nil _ _ _ _ _, Below.refl _ _⟩
end Go.Proofs.Ytblacdnndchghaa.D
