/- '[]byte(s)' in the print's own form: a slice that is shared (Kd.V): its block bears a conversion's mark. -/
import Derived.Test.YtffggkhahambhaaWMore
import Derived.Test.YtffggkhahambhaaWShare
import Derived.Lib.ConvBytes
namespace Go.Proofs.Ytffggkhahambhaa.Conv
open Go.RowKit Go.Proofs.YtffggkhahambhaaW.PrintWords Go.Proofs.YtffggkhahambhaaW.PrintLast Go.Proofs.YtffggkhahambhaaW.PrintMore
set_option linter.unusedVariables false
variable {P : Program} {ops : Array Oper} {rest : List Oper} {o : Oper} {a : Act} {Q : Exit → Act → World → Prop} {K Kc : Act → World → Prop}

theorem bytes_V (W : World) (base e : Nat) (s : ByteArray) (hs : s.size ≤ 140737488355328) :
    Kd.V (Kd.int .u8) e (Lib.bytesWorld W e s) base (fun k => W.heap.size ≤ k) (.slice (some ⟨W.heap.size, 0, none⟩) s.size (grownCap W s.size 0 e)) (bytesOf s) := by
  have hl := bytesOf_length s
  refine ⟨some ⟨W.heap.size, 0, none⟩, grownCap W s.size 0 e, by rw [hl], by rw [hl]; exact grownCap_ge _ _ _ _, ?_⟩
  intro W' hW
  have hb := hW W.heap.size (Nat.le_refl _) (by rw [Lib.bytesWorld_size]; omega)
  have hr := bytes_reads W e s (by omega)
  rw [hl]
  refine Kd.C_of_reads (d := (0 : Int)) ⟨hl, by omega, fun hp => ?_⟩
  obtain ⟨ad, he, hc⟩ := hr.2.2 hp
  refine ⟨ad, he, fun i hi => ?_⟩
  injection he with he
  subst he
  rw [← hc i hi, add_plain]
  exact World.cell?_of_block hb

theorem conv_wp {w0 W : World} (base e : Nat) (src dst : TypeId) (x : Operand) (ho : o.op = .convert src dst x) {u : TypeDesc} (hs : P.underlying src = some u) (hd : P.underlying dst = some (.slice e)) (he : P.underlying e = some (.int .u8))
    (s : ByteArray) (hx : a.eval x = .string s) (hm : (s.size : Int) ≤ 140737488355328) (HB : Below base w0 W) (hbase : base ≤ W.heap.size)
    (h : ∀ v1 w1, Kd.V (Kd.int .u8) e w1 base (fun k => W.heap.size ≤ k) v1 (bytesOf s) → Below base w0 w1 → W.grownBy w1 none → (∃ b, v1.ownBlock = some b ∧ W.heap.size ≤ b) → K (a.put o.dst v1) w1) : Oper.wp P o a W K Q := by
  have hrun := print_bytes (P := P) src dst e hs hd he s W
  have h2 := h _ _ (bytes_V W base e s (by omega)) (bytes_below HB hbase e s) ⟨rfl, rfl, rfl, by rw [Lib.bytesWorld_size]; omega, fun k hk _ => Lib.bytesWorld_at_old W e s k hk⟩ ⟨_, rfl, Nat.le_refl _⟩
  unfold Oper.wp
  simp [execOp, ho, hx, hrun, Result.andThen]
  exact h2

theorem V_conv_step {w0 W : World} (base e : Nat) (hw : Region.wanted o (yielded ops a.tmps) = true) {N' : Tmp} (hdst : o.dst = some N') (src dst : TypeId) (x : Operand) (ho : o.op = .convert src dst x) {u : TypeDesc} (hs : P.underlying src = some u) (hd : P.underlying dst = some (.slice e)) (he : P.underlying e = some (.int .u8))
    (s : ByteArray) (hx : a.eval x = .string s) (hm : (s.size : Int) ≤ 140737488355328) (HB : Below base w0 W) (hbase : base ≤ W.heap.size)
    (h : ∀ v1 w1, Kd.V (Kd.int .u8) e w1 base (fun k => W.heap.size ≤ k) v1 (bytesOf s) → Below base w0 w1 → W.grownBy w1 none → (∃ b, v1.ownBlock = some b ∧ W.heap.size ≤ b) → Kc (a.put o.dst v1) w1) :
    if Region.wanted o (yielded ops a.tmps) = true then Oper.wp P o a W Kc Q else Kc (a.put o.dst undef) W := by
  rw [if_pos hw]
  exact conv_wp base e src dst x ho hs hd he s hx hm HB hbase h

end Go.Proofs.Ytffggkhahambhaa.Conv
