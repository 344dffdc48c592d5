/- The picture's state, as the program holds it: what is read of it, what is written. -/
import Derived.Test.YtkfclamiendamaaProg
import Derived.Test.YtkfclamiendamaaKS
import Derived.Test.YtkfclamiendamaaG14
namespace Go.Proofs.Ytkfclamiendamaa
open Go.Sl Go.Xg
set_option linter.unusedVariables false
set_option linter.unusedSimpArgs false
set_option maxHeartbeats 4000000
set_option maxRecDepth 100000

structure Pp where
  regs : Nat → Int
  vram : Nat → Int
  oam : Nat → Int
  clock : Int
  seen : Bool
  rows : Int
  now : Nat → Int
  last : Nat → Int

def ppc0 (σ : Pp) : List Value :=
  seg .i64 12 σ.regs ++ (seg .u8 8192 σ.vram ++ (seg .u8 160 σ.oam ++ ([.int .i64 σ.clock, .bool σ.seen, .int .i64 σ.rows] ++ (seg .u8 23040 σ.now ++ seg .u8 23040 σ.last))))

/-- The same, which nothing unfolds. -/
noncomputable def ppc : Pp → List Value := Classical.choose (⟨ppc0, rfl⟩ : ∃ f : Pp → List Value, f = ppc0)
theorem ppc_eq : ppc = ppc0 := Classical.choose_spec (⟨ppc0, rfl⟩ : ∃ f : Pp → List Value, f = ppc0)

abbrev PpR (b : Nat) (σ : Pp) : HP := row b 77 (ppc σ)
abbrev pt (p : Nat) : Value := .pointer (some ⟨p, 0, none⟩)

theorem g_regs (σ : Pp) (i : Nat) (h : i < 12) : Gets (ppc σ) i (.int .i64 (σ.regs i)) := by
  rw [ppc_eq]; unfold ppc0
  exact gets_head (seg_get h)
theorem g_vram (σ : Pp) (i : Nat) (h : i < 8192) : Gets (ppc σ) (12 + i) (.int .u8 (σ.vram i)) := by
  rw [ppc_eq]; unfold ppc0
  exact gets_tail (seg_len _ _ _) (gets_head (seg_get h))
theorem g_oam (σ : Pp) (i : Nat) (h : i < 160) : Gets (ppc σ) (8204 + i) (.int .u8 (σ.oam i)) := by
  rw [ppc_eq]; unfold ppc0
  rw [show 8204 + i = 12 + (8192 + i) from by omega]
  exact gets_tail (seg_len _ _ _) (gets_tail (seg_len _ _ _) (gets_head (seg_get h)))
theorem g_clock (σ : Pp) : Gets (ppc σ) 8364 (.int .i64 σ.clock) := by
  rw [ppc_eq]; unfold ppc0
  rw [show 8364 = 12 + (8192 + (160 + 0)) from rfl]
  exact gets_tail (seg_len _ _ _) (gets_tail (seg_len _ _ _) (gets_tail (seg_len _ _ _) (gets_head rfl)))
theorem g_seen (σ : Pp) : Gets (ppc σ) 8365 (.bool σ.seen) := by
  rw [ppc_eq]; unfold ppc0
  rw [show 8365 = 12 + (8192 + (160 + 1)) from rfl]
  exact gets_tail (seg_len _ _ _) (gets_tail (seg_len _ _ _) (gets_tail (seg_len _ _ _) (gets_head rfl)))
theorem g_rows (σ : Pp) : Gets (ppc σ) 8366 (.int .i64 σ.rows) := by
  rw [ppc_eq]; unfold ppc0
  rw [show 8366 = 12 + (8192 + (160 + 2)) from rfl]
  exact gets_tail (seg_len _ _ _) (gets_tail (seg_len _ _ _) (gets_tail (seg_len _ _ _) (gets_head rfl)))
theorem h_now (σ : Pp) : Has (ppc σ) 8367 (seg .u8 23040 σ.now) := by
  rw [ppc_eq]; unfold ppc0
  rw [show 8367 = 12 + (8192 + (160 + (3 + 0))) from rfl]
  exact has_tail (seg_len _ _ _) (has_tail (seg_len _ _ _) (has_tail (seg_len _ _ _) (has_tail rfl (has_head rfl))))
theorem h_last (σ : Pp) : Has (ppc σ) 31407 (seg .u8 23040 σ.last) := by
  rw [ppc_eq]; unfold ppc0
  rw [show 31407 = 12 + (8192 + (160 + (3 + (23040 + 0)))) from rfl]
  exact has_tail (seg_len _ _ _) (has_tail (seg_len _ _ _) (has_tail (seg_len _ _ _) (has_tail rfl (has_tail (seg_len _ _ _) (has_all rfl)))))

theorem s_regs (σ : Pp) (i : Nat) (v : Int) (h : i < 12) : Sets (ppc σ) i (.int .i64 v) (ppc { σ with regs := upd σ.regs i v }) := by
  rw [ppc_eq]; unfold ppc0
  exact sets_head (by rw [seg_len]; exact h) (seg_set h)
theorem s_vram (σ : Pp) (i : Nat) (v : Int) (h : i < 8192) : Sets (ppc σ) (12 + i) (.int .u8 v) (ppc { σ with vram := upd σ.vram i v }) := by
  rw [ppc_eq]; unfold ppc0
  exact sets_tail (seg_len _ _ _) (sets_head (by rw [seg_len]; exact h) (seg_set h))
theorem s_oam (σ : Pp) (i : Nat) (v : Int) (h : i < 160) : Sets (ppc σ) (8204 + i) (.int .u8 v) (ppc { σ with oam := upd σ.oam i v }) := by
  rw [ppc_eq]; unfold ppc0
  rw [show 8204 + i = 12 + (8192 + i) from by omega]
  exact sets_tail (seg_len _ _ _) (sets_tail (seg_len _ _ _) (sets_head (by rw [seg_len]; exact h) (seg_set h)))
theorem s_clock (σ : Pp) (v : Int) : Sets (ppc σ) 8364 (.int .i64 v) (ppc { σ with clock := v }) := by
  rw [ppc_eq]; unfold ppc0
  rw [show 8364 = 12 + (8192 + (160 + 0)) from rfl]
  exact sets_tail (seg_len _ _ _) (sets_tail (seg_len _ _ _) (sets_tail (seg_len _ _ _) (sets_head (by simp) rfl)))
theorem s_seen (σ : Pp) (v : Bool) : Sets (ppc σ) 8365 (.bool v) (ppc { σ with seen := v }) := by
  rw [ppc_eq]; unfold ppc0
  rw [show 8365 = 12 + (8192 + (160 + 1)) from rfl]
  exact sets_tail (seg_len _ _ _) (sets_tail (seg_len _ _ _) (sets_tail (seg_len _ _ _) (sets_head (by simp) rfl)))
theorem s_rows (σ : Pp) (v : Int) : Sets (ppc σ) 8366 (.int .i64 v) (ppc { σ with rows := v }) := by
  rw [ppc_eq]; unfold ppc0
  rw [show 8366 = 12 + (8192 + (160 + 2)) from rfl]
  exact sets_tail (seg_len _ _ _) (sets_tail (seg_len _ _ _) (sets_tail (seg_len _ _ _) (sets_head (by simp) rfl)))
theorem s_now (σ : Pp) (i : Nat) (v : Int) (h : i < 23040) : Sets (ppc σ) (8367 + i) (.int .u8 v) (ppc { σ with now := upd σ.now i v }) := by
  rw [ppc_eq]; unfold ppc0
  rw [show 8367 + i = 12 + (8192 + (160 + (3 + i))) from by omega]
  exact sets_tail (seg_len _ _ _) (sets_tail (seg_len _ _ _) (sets_tail (seg_len _ _ _) (sets_tail rfl (sets_head (by rw [seg_len]; exact h) (seg_set h)))))
theorem p_last (σ : Pp) (f : Nat → Int) : Puts (ppc σ) 31407 (seg .u8 23040 f) (ppc { σ with last := f }) := by
  rw [ppc_eq]; unfold ppc0
  rw [show 31407 = 12 + (8192 + (160 + (3 + (23040 + 0)))) from rfl]
  exact puts_tail (seg_len _ _ _) (puts_tail (seg_len _ _ _) (puts_tail (seg_len _ _ _) (puts_tail rfl (puts_tail (seg_len _ _ _) (puts_all (by rw [seg_len, seg_len]))))))
theorem p_now (σ : Pp) (f : Nat → Int) : Puts (ppc σ) 8367 (seg .u8 23040 f) (ppc { σ with now := f }) := by
  rw [ppc_eq]; unfold ppc0
  rw [show 8367 = 12 + (8192 + (160 + (3 + 0))) from rfl]
  exact puts_tail (seg_len _ _ _) (puts_tail (seg_len _ _ _) (puts_tail (seg_len _ _ _) (puts_tail rfl (puts_head (by rw [seg_len, seg_len])))))
theorem z_last (σ : Pp) : Puts (ppc σ) 31407 (List.replicate 23040 (.int .u8 0)) (ppc { σ with last := fun _ => 0 }) := by
  rw [← seg_zero]; exact p_last σ _
theorem z_now (σ : Pp) : Puts (ppc σ) 8367 (List.replicate 23040 (.int .u8 0)) (ppc { σ with now := fun _ => 0 }) := by
  rw [← seg_zero]; exact p_now σ _


def zeroP : Pp := ⟨fun _ => 0, fun _ => 0, fun _ => 0, 0, false, 0, fun _ => 0, fun _ => 0⟩
theorem zero_runs : eat Try.zeroCells77.toList 12 (.int .i64 0) [(8192, .int .u8 0), (160, .int .u8 0), (1, .int .i64 0), (1, .bool false), (1, .int .i64 0), (23040, .int .u8 0), (23040, .int .u8 0)] = true := by kernel_rfl
theorem zero_cells : Try.zeroCells77.toList = ppc zeroP := by
  rw [eat_eq zero_runs, ppc_eq]
  unfold ppc0 zeroP
  simp only [seg_zero, runs, List.append_nil, List.replicate_one, List.append_assoc, List.cons_append, List.nil_append]

theorem begin_d (p : Nat) (σ : Pp) : Does Try.prog 60 [pt p] [PpR p σ] (Ret (.tuple #[]) [PpR p { σ with regs := upd σ.regs 4 0, clock := 0, seen := false, rows := 0 }]) := by
  (focus
    refine Xg.spec_of Go.Proofs.Try.func60 rfl Go.Proofs.Try.ntmps60 fun g F => ?_)
  (focus
    refine Xg.at_region ?_
    refine Xg.ops_op (by kernel_rfl) (Xg.opx_pure ((pv p 0)) rfl (fun _ => by kernel_rfl) ?_)
    refine Xg.ops_op (by kernel_rfl) (Xg.opx_pure ((pv p 0)) rfl (fun _ => by kernel_rfl) ?_)
    refine Xg.ops_op (by kernel_rfl) (Xg.opx_pure ((pv p 0)) rfl (fun _ => by kernel_rfl) ?_)
    refine Xg.ops_op (by kernel_rfl) (Xg.opx_pure ((pv p 0)) rfl (fun _ => by kernel_rfl) ?_)
    refine Xg.ops_op (by kernel_rfl) (Xg.opx_pure ((pv p 0)) rfl (fun _ => by kernel_rfl) ?_)
    refine Xg.ops_op (by kernel_rfl) (Xg.opx_pure ((pv p 0)) rfl (fun _ => by kernel_rfl) ?_)
    refine Xg.ops_op (by kernel_rfl) (Xg.opx_pure (pv p 4) rfl (fun _ => by kernel_rfl) ?_)
    refine Xg.ops_op (by kernel_rfl) (Xg.opx_store_c (off := ((4 : Nat))) (cs' := (ppc (Pp.mk (upd σ.regs 4 (0 : Int)) σ.vram σ.oam σ.clock σ.seen σ.rows σ.now σ.last))) 0 (iv 0) (by kernel_rfl) rfl (by kernel_rfl) (by kernel_rfl) (by kernel_rfl) (@Go.Proofs.Ytkfclamiendamaa.s_regs (σ) (((4 : Nat))) (((0 : Int))) (by omega)) ?_)
    refine Xg.ops_op (by kernel_rfl) (Xg.opx_pure ((pv p 0)) rfl (fun _ => by kernel_rfl) ?_)
    refine Xg.ops_op (by kernel_rfl) (Xg.opx_pure ((pv p 8364)) rfl (fun _ => by kernel_rfl) ?_)
    refine Xg.ops_op (by kernel_rfl) (Xg.opx_store_c (off := ((8364 : Nat))) (cs' := (ppc (Pp.mk (upd σ.regs 4 (0 : Int)) σ.vram σ.oam (0 : Int) σ.seen σ.rows σ.now σ.last))) 0 (iv 0) (by kernel_rfl) rfl (by kernel_rfl) (by kernel_rfl) (by kernel_rfl) (@Go.Proofs.Ytkfclamiendamaa.s_clock ((Pp.mk (upd σ.regs 4 (0 : Int)) σ.vram σ.oam σ.clock σ.seen σ.rows σ.now σ.last)) (((0 : Int)))) ?_)
    refine Xg.ops_op (by kernel_rfl) (Xg.opx_pure ((pv p 0)) rfl (fun _ => by kernel_rfl) ?_)
    refine Xg.ops_op (by kernel_rfl) (Xg.opx_pure ((pv p 8365)) rfl (fun _ => by kernel_rfl) ?_)
    refine Xg.ops_op (by kernel_rfl) (Xg.opx_store_c (off := ((8365 : Nat))) (cs' := (ppc (Pp.mk (upd σ.regs 4 (0 : Int)) σ.vram σ.oam (0 : Int) false σ.rows σ.now σ.last))) 0 (Value.bool false) (by kernel_rfl) rfl (by kernel_rfl) (by kernel_rfl) (by kernel_rfl) (@Go.Proofs.Ytkfclamiendamaa.s_seen ((Pp.mk (upd σ.regs 4 (0 : Int)) σ.vram σ.oam (0 : Int) σ.seen σ.rows σ.now σ.last)) (false)) ?_)
    refine Xg.ops_op (by kernel_rfl) (Xg.opx_pure ((pv p 0)) rfl (fun _ => by kernel_rfl) ?_)
    refine Xg.ops_op (by kernel_rfl) (Xg.opx_pure ((pv p 8366)) rfl (fun _ => by kernel_rfl) ?_)
    refine Xg.ops_op (by kernel_rfl) (Xg.opx_store_c (off := ((8366 : Nat))) (cs' := (ppc (Pp.mk (upd σ.regs 4 (0 : Int)) σ.vram σ.oam (0 : Int) false (0 : Int) σ.now σ.last))) 0 (iv 0) (by kernel_rfl) rfl (by kernel_rfl) (by kernel_rfl) (by kernel_rfl) (@Go.Proofs.Ytkfclamiendamaa.s_rows ((Pp.mk (upd σ.regs 4 (0 : Int)) σ.vram σ.oam (0 : Int) false σ.rows σ.now σ.last)) (((0 : Int)))) ?_)
    refine Xg.ops_nil ?_
    refine Xg.at_end_ps (v := (tu)) [0] [row p (77 : TypeId) (ppc (Pp.mk (upd σ.regs 4 (0 : Int)) σ.vram σ.oam (0 : Int) false (0 : Int) σ.now σ.last))] Go.Proofs.Try.func60 (fun _ => by kernel_rfl) (by kernel_rfl) (by kernel_rfl) ?_
    exact ⟨by kernel_rfl, by kernel_rfl⟩)

theorem line_d (p : Nat) (σ : Pp) : Does Try.prog 41 [pt p] [PpR p σ] (Ret (.tuple #[.int .i64 (σ.regs 4), .int .i64 σ.clock]) [PpR p σ]) := by
  (focus
    refine Xg.spec_of Go.Proofs.Try.func41 rfl Go.Proofs.Try.ntmps41 fun g F => ?_)
  (focus
    refine Xg.at_seq ?_
    refine Xg.at_region ?_
    refine Xg.ops_op (by kernel_rfl) (Xg.opx_pure ((iv 0)) rfl (fun _ => by kernel_rfl) ?_)
    refine Xg.ops_op (by kernel_rfl) (Xg.opx_pure ((iv 0)) rfl (fun _ => by kernel_rfl) ?_)
    refine Xg.ops_nil ?_
    refine Xg.at_seq ?_
    refine Xg.at_draw [] [(4, [0, 1, 2, 3, 4, 5, 6, 7, 8], Xg.CellIs (p) (((4 : Nat))) ((iv (σ.regs 4)))), (8, [0, 1, 2, 3, 4, 5, 6, 7, 8, 9], Xg.CellIs (p) (((8364 : Nat))) ((iv σ.clock)))] (by kernel_rfl) ?_
    refine Xg.any_pure ((pv p 0)) 0 (by kernel_rfl) rfl (by kernel_rfl) (by kernel_rfl) (by kernel_rfl) (by kernel_rfl) rfl (fun _ => by kernel_rfl) ?_
    refine Xg.any_pure ((pv p 0)) 1 (by kernel_rfl) rfl (by kernel_rfl) (by kernel_rfl) (by kernel_rfl) (by kernel_rfl) rfl (fun _ => by kernel_rfl) ?_
    refine Xg.any_pure ((pv p 0)) 2 (by kernel_rfl) rfl (by kernel_rfl) (by kernel_rfl) (by kernel_rfl) (by kernel_rfl) rfl (fun _ => by kernel_rfl) ?_
    refine Xg.any_pure (pv p 4) 3 (by kernel_rfl) rfl (by kernel_rfl) (by kernel_rfl) (by kernel_rfl) (by kernel_rfl) rfl (fun _ => by kernel_rfl) ?_
    refine Xg.any_reads (iv (σ.regs 4)) 4 0 (by kernel_rfl) rfl (by kernel_rfl) (by kernel_rfl) (by kernel_rfl) (by kernel_rfl) rfl rfl (by kernel_rfl) (Xg.cell_now (b := p) (off := ((4 : Nat))) 0 rfl (@Go.Proofs.Ytkfclamiendamaa.g_regs (σ) (((4 : Nat))) (by omega))) (fun _ h => Xg.run_load (by kernel_rfl) (by kernel_rfl) h) ?_
    refine Xg.any_pure ((pv p 0)) 5 (by kernel_rfl) rfl (by kernel_rfl) (by kernel_rfl) (by kernel_rfl) (by kernel_rfl) rfl (fun _ => by kernel_rfl) ?_
    refine Xg.any_pure ((pv p 0)) 6 (by kernel_rfl) rfl (by kernel_rfl) (by kernel_rfl) (by kernel_rfl) (by kernel_rfl) rfl (fun _ => by kernel_rfl) ?_
    refine Xg.any_pure ((pv p 8364)) 7 (by kernel_rfl) rfl (by kernel_rfl) (by kernel_rfl) (by kernel_rfl) (by kernel_rfl) rfl (fun _ => by kernel_rfl) ?_
    refine Xg.any_reads (iv σ.clock) 8 1 (by kernel_rfl) rfl (by kernel_rfl) (by kernel_rfl) (by kernel_rfl) (by kernel_rfl) rfl rfl (by kernel_rfl) (Xg.cell_now (b := p) (off := ((8364 : Nat))) 0 rfl (@Go.Proofs.Ytkfclamiendamaa.g_clock (σ))) (fun _ h => Xg.run_load (by kernel_rfl) (by kernel_rfl) h) ?_
    refine Xg.any_pure ((iv (σ.regs 4))) 9 (by kernel_rfl) rfl (by kernel_rfl) (by kernel_rfl) (by kernel_rfl) (by kernel_rfl) rfl (fun _ => by kernel_rfl) ?_
    refine Xg.any_pure ((iv σ.clock)) 10 (by kernel_rfl) rfl (by kernel_rfl) (by kernel_rfl) (by kernel_rfl) (by kernel_rfl) rfl (fun _ => by kernel_rfl) ?_
    refine Xg.any_nil (by kernel_rfl) ?_
    refine Xg.at_ret_ps (v := (Value.tuple #[iv (σ.regs 4), iv σ.clock])) [0] [PpR p σ] Go.Proofs.Try.func41 (fun _ => by kernel_rfl) (by kernel_rfl) (by kernel_rfl) ?_
    exact ⟨by kernel_rfl, by kernel_rfl⟩)

end Go.Proofs.Ytkfclamiendamaa
