import Derived.Test.YthjhkondmobaeaaDoorMRam18
/- cart: New. -/
namespace Go.Proofs.YthjhkondmobaeaaDoor
open Go.Sl Go.Xg
set_option linter.unusedVariables false
set_option linter.unusedSimpArgs false
set_option maxHeartbeats 4000000
set_option maxRecDepth 100000

theorem made0_d : Does Tryd.prog 28 [.int .i64 0] [] (Ret (V0 0) []) := by
  (focus
    refine Xg.spec_of Go.Proofs.Tryd.func28 rfl Go.Proofs.Tryd.ntmps28 fun g F => ?_)
  (focus
    refine Xg.at_seq ?_
    refine Xg.at_region ?_
    refine Xg.ops_op (by kernel_rfl) (Xg.opx_pure (Value.nilIface) rfl (fun _ => by kernel_rfl) ?_)
    refine Xg.ops_nil ?_
    refine Xg.at_seq ?_
    refine Xg.at_region ?_
    refine Xg.ops_op (by kernel_rfl) (Xg.opx_pure ((Value.agg #[uv 0, uv 0, iv 1])) rfl (fun _ => by kernel_rfl) ?_)
    refine Xg.ops_op (by kernel_rfl) (Xg.opx_new 3 [uv 0, uv 0, iv 0] (by kernel_rfl) (by kernel_rfl) fun xb1 => ?_)
    refine Xg.ops_op (by kernel_rfl) (Xg.opx_storen 3 (off := 0) 0 [uv 0, uv 0, iv 1] (by kernel_rfl) rfl (by kernel_rfl) (by kernel_rfl) rfl (by kernel_rfl) (Nat.le_of_ble_eq_true (by kernel_rfl)) ?_)
    refine Xg.ops_nil ?_
    refine Xg.at_seq ?_
    refine Xg.at_seq ?_
    refine Xg.at_region ?_
    refine Xg.ops_op (by kernel_rfl) (Xg.opx_pure ((iv 0)) rfl (fun _ => by kernel_rfl) ?_)
    refine Xg.ops_nil ?_
    refine Xg.at_block ?_
    refine Xg.at_seq ?_
    refine Xg.at_region ?_
    refine Xg.ops_op (by kernel_rfl) (Xg.opx_pure ((Value.bool false)) rfl (fun _ => by kernel_rfl) ?_)
    refine Xg.ops_op (by kernel_rfl) (Xg.opx_pure ((Value.bool false)) rfl (fun _ => by kernel_rfl) ?_)
    refine Xg.ops_nil ?_
    refine Xg.at_false (t := false) (by kernel_rfl) rfl ?_
    refine Xg.at_seq ?_
    refine Xg.at_region ?_
    refine Xg.ops_op (by kernel_rfl) (Xg.opx_pure ((Value.bool false)) rfl (fun _ => by kernel_rfl) ?_)
    refine Xg.ops_op (by kernel_rfl) (Xg.opx_pure ((Value.bool false)) rfl (fun _ => by kernel_rfl) ?_)
    refine Xg.ops_nil ?_
    refine Xg.at_false (t := false) (by kernel_rfl) rfl ?_
    refine Xg.at_seq ?_
    refine Xg.at_region ?_
    refine Xg.ops_op (by kernel_rfl) (Xg.opx_pure ((Value.bool false)) rfl (fun _ => by kernel_rfl) ?_)
    refine Xg.ops_op (by kernel_rfl) (Xg.opx_pure ((Value.bool false)) rfl (fun _ => by kernel_rfl) ?_)
    refine Xg.ops_nil ?_
    refine Xg.at_false (t := false) (by kernel_rfl) rfl ?_
    refine Xg.at_seq ?_
    refine Xg.at_region ?_
    refine Xg.ops_op (by kernel_rfl) (Xg.opx_pure ((Value.bool false)) rfl (fun _ => by kernel_rfl) ?_)
    refine Xg.ops_op (by kernel_rfl) (Xg.opx_pure ((Value.bool false)) rfl (fun _ => by kernel_rfl) ?_)
    refine Xg.ops_nil ?_
    refine Xg.at_false (t := false) (by kernel_rfl) rfl ?_
    refine Xg.at_skip ?_
    refine Xg.at_inBlock ?_
    refine Xg.at_seq ?_
    refine Xg.at_region ?_
    refine Xg.ops_op (by kernel_rfl) (Xg.opx_pure ((Value.agg #[])) rfl (fun _ => by kernel_rfl) ?_)
    refine Xg.ops_op (by kernel_rfl) (Xg.opx_pure ((Value.iface (84 : Nat) (Value.agg #[]))) rfl (fun _ => by kernel_rfl) ?_)
    refine Xg.ops_op (by kernel_rfl) (Xg.opx_pure ((Value.iface (84 : Nat) (Value.agg #[]))) rfl (fun _ => by kernel_rfl) ?_)
    refine Xg.ops_nil ?_
    refine Xg.at_ret_ps (v := (Value.iface (84 : Nat) (Value.agg #[]))) [] [] Go.Proofs.Tryd.func28 (fun _ => by kernel_rfl) (by kernel_rfl) (by kernel_rfl) ?_
    exact ⟨by kernel_rfl, by kernel_rfl⟩)
theorem made1_d : Does Tryd.prog 28 [.int .i64 1] [] (RetE (fun b : Nat => True) (fun b => V1 b) (fun b => [MR1 b ⟨0, 1, 0, 0, 0⟩])) := by
  (focus
    refine Xg.spec_of Go.Proofs.Tryd.func28 rfl Go.Proofs.Tryd.ntmps28 fun g F => ?_)
  (focus
    refine Xg.at_seq ?_
    refine Xg.at_region ?_
    refine Xg.ops_op (by kernel_rfl) (Xg.opx_pure (Value.nilIface) rfl (fun _ => by kernel_rfl) ?_)
    refine Xg.ops_nil ?_
    refine Xg.at_seq ?_
    refine Xg.at_region ?_
    refine Xg.ops_op (by kernel_rfl) (Xg.opx_pure ((Value.agg #[uv 0, uv 0, iv 1])) rfl (fun _ => by kernel_rfl) ?_)
    refine Xg.ops_op (by kernel_rfl) (Xg.opx_new 3 [uv 0, uv 0, iv 0] (by kernel_rfl) (by kernel_rfl) fun xb1 => ?_)
    refine Xg.ops_op (by kernel_rfl) (Xg.opx_storen 3 (off := 0) 0 [uv 0, uv 0, iv 1] (by kernel_rfl) rfl (by kernel_rfl) (by kernel_rfl) rfl (by kernel_rfl) (Nat.le_of_ble_eq_true (by kernel_rfl)) ?_)
    refine Xg.ops_nil ?_
    refine Xg.at_seq ?_
    refine Xg.at_seq ?_
    refine Xg.at_region ?_
    refine Xg.ops_op (by kernel_rfl) (Xg.opx_pure ((iv 1)) rfl (fun _ => by kernel_rfl) ?_)
    refine Xg.ops_nil ?_
    refine Xg.at_block ?_
    refine Xg.at_seq ?_
    refine Xg.at_region ?_
    refine Xg.ops_op (by kernel_rfl) (Xg.opx_pure ((Value.bool true)) rfl (fun _ => by kernel_rfl) ?_)
    refine Xg.ops_op (by kernel_rfl) (Xg.opx_pure ((Value.bool true)) rfl (fun _ => by kernel_rfl) ?_)
    refine Xg.ops_nil ?_
    refine Xg.at_true (t := true) (by kernel_rfl) rfl ?_
    refine Xg.at_seq ?_
    refine Xg.at_region ?_
    refine Xg.ops_op (by kernel_rfl) (Xg.opx_loadn (off := 0) 3 0 [uv 0, uv 0, iv 1] (by kernel_rfl) rfl (by kernel_rfl) rfl (Xg.cells_at (by kernel_rfl)) (by kernel_rfl) ?_)
    refine Xg.ops_op (by kernel_rfl) (Xg.opx_pure ((Value.agg #[uv 0, uv 0, iv 1, uv 0])) rfl (fun _ => by kernel_rfl) ?_)
    refine Xg.ops_op (by kernel_rfl) (Xg.opx_box (v := (Value.agg #[uv 0, uv 0, iv 1, uv 0])) [uv 0, uv 0, iv 1, uv 0] (by kernel_rfl) (by kernel_rfl) fun xb2 => ?_)
    refine Xg.ops_op (by kernel_rfl) (Xg.opx_pure ((Value.iface (72 : Nat) (pv xb2 0))) rfl (fun _ => by kernel_rfl) ?_)
    refine Xg.ops_op (by kernel_rfl) (Xg.opx_pure ((Value.iface (72 : Nat) (pv xb2 0))) rfl (fun _ => by kernel_rfl) ?_)
    refine Xg.ops_nil ?_
    refine Xg.at_ret_ps (v := (Value.iface (72 : Nat) (pv xb2 0))) [0] [row xb2 (74 : Nat) [uv 0, uv 0, iv 1, uv 0]] Go.Proofs.Tryd.func28 (fun _ => by kernel_rfl) (by kernel_rfl) (by kernel_rfl) ?_
    refine ⟨xb2, trivial, by kernel_rfl, by kernel_rfl⟩)
theorem made2_d : Does Tryd.prog 28 [.int .i64 2] [] (RetE (fun b : Nat => True) (fun b => V2 b) (fun b => [MR2 b ⟨0, 1, 0, 0, 0⟩])) := by
  (focus
    refine Xg.spec_of Go.Proofs.Tryd.func28 rfl Go.Proofs.Tryd.ntmps28 fun g F => ?_)
  (focus
    refine Xg.at_seq ?_
    refine Xg.at_region ?_
    refine Xg.ops_op (by kernel_rfl) (Xg.opx_pure (Value.nilIface) rfl (fun _ => by kernel_rfl) ?_)
    refine Xg.ops_nil ?_
    refine Xg.at_seq ?_
    refine Xg.at_region ?_
    refine Xg.ops_op (by kernel_rfl) (Xg.opx_pure ((Value.agg #[uv 0, uv 0, iv 1])) rfl (fun _ => by kernel_rfl) ?_)
    refine Xg.ops_op (by kernel_rfl) (Xg.opx_new 3 [uv 0, uv 0, iv 0] (by kernel_rfl) (by kernel_rfl) fun xb1 => ?_)
    refine Xg.ops_op (by kernel_rfl) (Xg.opx_storen 3 (off := 0) 0 [uv 0, uv 0, iv 1] (by kernel_rfl) rfl (by kernel_rfl) (by kernel_rfl) rfl (by kernel_rfl) (Nat.le_of_ble_eq_true (by kernel_rfl)) ?_)
    refine Xg.ops_nil ?_
    refine Xg.at_seq ?_
    refine Xg.at_seq ?_
    refine Xg.at_region ?_
    refine Xg.ops_op (by kernel_rfl) (Xg.opx_pure ((iv 2)) rfl (fun _ => by kernel_rfl) ?_)
    refine Xg.ops_nil ?_
    refine Xg.at_block ?_
    refine Xg.at_seq ?_
    refine Xg.at_region ?_
    refine Xg.ops_op (by kernel_rfl) (Xg.opx_pure ((Value.bool false)) rfl (fun _ => by kernel_rfl) ?_)
    refine Xg.ops_op (by kernel_rfl) (Xg.opx_pure ((Value.bool false)) rfl (fun _ => by kernel_rfl) ?_)
    refine Xg.ops_nil ?_
    refine Xg.at_false (t := false) (by kernel_rfl) rfl ?_
    refine Xg.at_seq ?_
    refine Xg.at_region ?_
    refine Xg.ops_op (by kernel_rfl) (Xg.opx_pure ((Value.bool true)) rfl (fun _ => by kernel_rfl) ?_)
    refine Xg.ops_op (by kernel_rfl) (Xg.opx_pure ((Value.bool true)) rfl (fun _ => by kernel_rfl) ?_)
    refine Xg.ops_nil ?_
    refine Xg.at_true (t := true) (by kernel_rfl) rfl ?_
    refine Xg.at_seq ?_
    refine Xg.at_region ?_
    refine Xg.ops_op (by kernel_rfl) (Xg.opx_loadn (off := 0) 3 0 [uv 0, uv 0, iv 1] (by kernel_rfl) rfl (by kernel_rfl) rfl (Xg.cells_at (by kernel_rfl)) (by kernel_rfl) ?_)
    refine Xg.ops_op (by kernel_rfl) (Xg.opx_pure ((Value.agg #[uv 0, uv 0, iv 1])) rfl (fun _ => by kernel_rfl) ?_)
    refine Xg.ops_op (by kernel_rfl) (Xg.opx_box (v := (Value.agg #[uv 0, uv 0, iv 1])) [uv 0, uv 0, iv 1] (by kernel_rfl) (by kernel_rfl) fun xb2 => ?_)
    refine Xg.ops_op (by kernel_rfl) (Xg.opx_pure ((Value.iface (75 : Nat) (pv xb2 0))) rfl (fun _ => by kernel_rfl) ?_)
    refine Xg.ops_op (by kernel_rfl) (Xg.opx_pure ((Value.iface (75 : Nat) (pv xb2 0))) rfl (fun _ => by kernel_rfl) ?_)
    refine Xg.ops_nil ?_
    refine Xg.at_ret_ps (v := (Value.iface (75 : Nat) (pv xb2 0))) [0] [row xb2 (77 : Nat) [uv 0, uv 0, iv 1]] Go.Proofs.Tryd.func28 (fun _ => by kernel_rfl) (by kernel_rfl) (by kernel_rfl) ?_
    refine ⟨xb2, trivial, by kernel_rfl, by kernel_rfl⟩)
theorem made3_d : Does Tryd.prog 28 [.int .i64 3] [] (RetE (fun b : Nat => True) (fun b => V3 b) (fun b => [MR3 b ⟨0, 1, 0, 0, 0⟩])) := by
  (focus
    refine Xg.spec_of Go.Proofs.Tryd.func28 rfl Go.Proofs.Tryd.ntmps28 fun g F => ?_)
  (focus
    refine Xg.at_seq ?_
    refine Xg.at_region ?_
    refine Xg.ops_op (by kernel_rfl) (Xg.opx_pure (Value.nilIface) rfl (fun _ => by kernel_rfl) ?_)
    refine Xg.ops_nil ?_
    refine Xg.at_seq ?_
    refine Xg.at_region ?_
    refine Xg.ops_op (by kernel_rfl) (Xg.opx_pure ((Value.agg #[uv 0, uv 0, iv 1])) rfl (fun _ => by kernel_rfl) ?_)
    refine Xg.ops_op (by kernel_rfl) (Xg.opx_new 3 [uv 0, uv 0, iv 0] (by kernel_rfl) (by kernel_rfl) fun xb1 => ?_)
    refine Xg.ops_op (by kernel_rfl) (Xg.opx_storen 3 (off := 0) 0 [uv 0, uv 0, iv 1] (by kernel_rfl) rfl (by kernel_rfl) (by kernel_rfl) rfl (by kernel_rfl) (Nat.le_of_ble_eq_true (by kernel_rfl)) ?_)
    refine Xg.ops_nil ?_
    refine Xg.at_seq ?_
    refine Xg.at_seq ?_
    refine Xg.at_region ?_
    refine Xg.ops_op (by kernel_rfl) (Xg.opx_pure ((iv 3)) rfl (fun _ => by kernel_rfl) ?_)
    refine Xg.ops_nil ?_
    refine Xg.at_block ?_
    refine Xg.at_seq ?_
    refine Xg.at_region ?_
    refine Xg.ops_op (by kernel_rfl) (Xg.opx_pure ((Value.bool false)) rfl (fun _ => by kernel_rfl) ?_)
    refine Xg.ops_op (by kernel_rfl) (Xg.opx_pure ((Value.bool false)) rfl (fun _ => by kernel_rfl) ?_)
    refine Xg.ops_nil ?_
    refine Xg.at_false (t := false) (by kernel_rfl) rfl ?_
    refine Xg.at_seq ?_
    refine Xg.at_region ?_
    refine Xg.ops_op (by kernel_rfl) (Xg.opx_pure ((Value.bool false)) rfl (fun _ => by kernel_rfl) ?_)
    refine Xg.ops_op (by kernel_rfl) (Xg.opx_pure ((Value.bool false)) rfl (fun _ => by kernel_rfl) ?_)
    refine Xg.ops_nil ?_
    refine Xg.at_false (t := false) (by kernel_rfl) rfl ?_
    refine Xg.at_seq ?_
    refine Xg.at_region ?_
    refine Xg.ops_op (by kernel_rfl) (Xg.opx_pure ((Value.bool true)) rfl (fun _ => by kernel_rfl) ?_)
    refine Xg.ops_op (by kernel_rfl) (Xg.opx_pure ((Value.bool true)) rfl (fun _ => by kernel_rfl) ?_)
    refine Xg.ops_nil ?_
    refine Xg.at_true (t := true) (by kernel_rfl) rfl ?_
    refine Xg.at_seq ?_
    refine Xg.at_region ?_
    refine Xg.ops_op (by kernel_rfl) (Xg.opx_loadn (off := 0) 3 0 [uv 0, uv 0, iv 1] (by kernel_rfl) rfl (by kernel_rfl) rfl (Xg.cells_at (by kernel_rfl)) (by kernel_rfl) ?_)
    refine Xg.ops_op (by kernel_rfl) (Xg.opx_pure ((Value.agg #[uv 0, uv 0, iv 1])) rfl (fun _ => by kernel_rfl) ?_)
    refine Xg.ops_op (by kernel_rfl) (Xg.opx_box (v := (Value.agg #[uv 0, uv 0, iv 1])) [uv 0, uv 0, iv 1] (by kernel_rfl) (by kernel_rfl) fun xb2 => ?_)
    refine Xg.ops_op (by kernel_rfl) (Xg.opx_pure ((Value.iface (78 : Nat) (pv xb2 0))) rfl (fun _ => by kernel_rfl) ?_)
    refine Xg.ops_op (by kernel_rfl) (Xg.opx_pure ((Value.iface (78 : Nat) (pv xb2 0))) rfl (fun _ => by kernel_rfl) ?_)
    refine Xg.ops_nil ?_
    refine Xg.at_ret_ps (v := (Value.iface (78 : Nat) (pv xb2 0))) [0] [row xb2 (79 : Nat) [uv 0, uv 0, iv 1]] Go.Proofs.Tryd.func28 (fun _ => by kernel_rfl) (by kernel_rfl) (by kernel_rfl) ?_
    refine ⟨xb2, trivial, by kernel_rfl, by kernel_rfl⟩)
theorem made5_d : Does Tryd.prog 28 [.int .i64 5] [] (RetE (fun b : Nat => True) (fun b => V5 b) (fun b => [MR5 b ⟨0, 1, 0, 0, 0⟩])) := by
  (focus
    refine Xg.spec_of Go.Proofs.Tryd.func28 rfl Go.Proofs.Tryd.ntmps28 fun g F => ?_)
  (focus
    refine Xg.at_seq ?_
    refine Xg.at_region ?_
    refine Xg.ops_op (by kernel_rfl) (Xg.opx_pure (Value.nilIface) rfl (fun _ => by kernel_rfl) ?_)
    refine Xg.ops_nil ?_
    refine Xg.at_seq ?_
    refine Xg.at_region ?_
    refine Xg.ops_op (by kernel_rfl) (Xg.opx_pure ((Value.agg #[uv 0, uv 0, iv 1])) rfl (fun _ => by kernel_rfl) ?_)
    refine Xg.ops_op (by kernel_rfl) (Xg.opx_new 3 [uv 0, uv 0, iv 0] (by kernel_rfl) (by kernel_rfl) fun xb1 => ?_)
    refine Xg.ops_op (by kernel_rfl) (Xg.opx_storen 3 (off := 0) 0 [uv 0, uv 0, iv 1] (by kernel_rfl) rfl (by kernel_rfl) (by kernel_rfl) rfl (by kernel_rfl) (Nat.le_of_ble_eq_true (by kernel_rfl)) ?_)
    refine Xg.ops_nil ?_
    refine Xg.at_seq ?_
    refine Xg.at_seq ?_
    refine Xg.at_region ?_
    refine Xg.ops_op (by kernel_rfl) (Xg.opx_pure ((iv 5)) rfl (fun _ => by kernel_rfl) ?_)
    refine Xg.ops_nil ?_
    refine Xg.at_block ?_
    refine Xg.at_seq ?_
    refine Xg.at_region ?_
    refine Xg.ops_op (by kernel_rfl) (Xg.opx_pure ((Value.bool false)) rfl (fun _ => by kernel_rfl) ?_)
    refine Xg.ops_op (by kernel_rfl) (Xg.opx_pure ((Value.bool false)) rfl (fun _ => by kernel_rfl) ?_)
    refine Xg.ops_nil ?_
    refine Xg.at_false (t := false) (by kernel_rfl) rfl ?_
    refine Xg.at_seq ?_
    refine Xg.at_region ?_
    refine Xg.ops_op (by kernel_rfl) (Xg.opx_pure ((Value.bool false)) rfl (fun _ => by kernel_rfl) ?_)
    refine Xg.ops_op (by kernel_rfl) (Xg.opx_pure ((Value.bool false)) rfl (fun _ => by kernel_rfl) ?_)
    refine Xg.ops_nil ?_
    refine Xg.at_false (t := false) (by kernel_rfl) rfl ?_
    refine Xg.at_seq ?_
    refine Xg.at_region ?_
    refine Xg.ops_op (by kernel_rfl) (Xg.opx_pure ((Value.bool false)) rfl (fun _ => by kernel_rfl) ?_)
    refine Xg.ops_op (by kernel_rfl) (Xg.opx_pure ((Value.bool false)) rfl (fun _ => by kernel_rfl) ?_)
    refine Xg.ops_nil ?_
    refine Xg.at_false (t := false) (by kernel_rfl) rfl ?_
    refine Xg.at_seq ?_
    refine Xg.at_region ?_
    refine Xg.ops_op (by kernel_rfl) (Xg.opx_pure ((Value.bool true)) rfl (fun _ => by kernel_rfl) ?_)
    refine Xg.ops_op (by kernel_rfl) (Xg.opx_pure ((Value.bool true)) rfl (fun _ => by kernel_rfl) ?_)
    refine Xg.ops_nil ?_
    refine Xg.at_true (t := true) (by kernel_rfl) rfl ?_
    refine Xg.at_seq ?_
    refine Xg.at_region ?_
    refine Xg.ops_op (by kernel_rfl) (Xg.opx_loadn (off := 0) 3 0 [uv 0, uv 0, iv 1] (by kernel_rfl) rfl (by kernel_rfl) rfl (Xg.cells_at (by kernel_rfl)) (by kernel_rfl) ?_)
    refine Xg.ops_op (by kernel_rfl) (Xg.opx_pure ((Value.agg #[uv 0, uv 0, iv 1, uv 0])) rfl (fun _ => by kernel_rfl) ?_)
    refine Xg.ops_op (by kernel_rfl) (Xg.opx_box (v := (Value.agg #[uv 0, uv 0, iv 1, uv 0])) [uv 0, uv 0, iv 1, uv 0] (by kernel_rfl) (by kernel_rfl) fun xb2 => ?_)
    refine Xg.ops_op (by kernel_rfl) (Xg.opx_pure ((Value.iface (80 : Nat) (pv xb2 0))) rfl (fun _ => by kernel_rfl) ?_)
    refine Xg.ops_op (by kernel_rfl) (Xg.opx_pure ((Value.iface (80 : Nat) (pv xb2 0))) rfl (fun _ => by kernel_rfl) ?_)
    refine Xg.ops_nil ?_
    refine Xg.at_ret_ps (v := (Value.iface (80 : Nat) (pv xb2 0))) [0] [row xb2 (82 : Nat) [uv 0, uv 0, iv 1, uv 0]] Go.Proofs.Tryd.func28 (fun _ => by kernel_rfl) (by kernel_rfl) (by kernel_rfl) ?_
    refine ⟨xb2, trivial, by kernel_rfl, by kernel_rfl⟩)
theorem clone_d (A : HP) (a : Option Addr) (n c : Nat) (ys : List Int) (hy : ys.length = n) (hn : 0 < n) (hm : n ≤ 100000000) (hc : n ≤ c) (ha : a.isNone = false) (hR : Reads A 1 (.slice a n c) n (ys.map (Value.int .u8))) : Does Tryd.prog 27 [.slice a n c] [A]
    (RetE (fun z : Option Addr × Nat => z.1.isNone = false ∧ n ≤ z.2) (fun z => .slice z.1 n z.2) (fun z => [A, bts z.1 n z.2 ys])) := by
  (focus
    refine Xg.spec_of Go.Proofs.Tryd.func27 rfl Go.Proofs.Tryd.ntmps27 fun g F => ?_)
  (focus
    refine Xg.at_seq ?_
    refine Xg.at_region ?_
    refine Xg.ops_op (by kernel_rfl) (Xg.opx_pure ((Value.slice none (0 : Nat) (0 : Nat))) rfl (fun _ => by kernel_rfl) ?_)
    refine Xg.ops_nil ?_
    refine Xg.at_seq ?_
    refine Xg.at_seq ?_
    refine Xg.at_region ?_
    refine Xg.ops_op (by kernel_rfl) (Xg.opx_pure ((Value.slice a n c)) rfl (fun _ => by kernel_rfl) ?_)
    refine Xg.ops_op (by kernel_rfl) (Xg.opx_run (.bool (Option.isNone a)) rfl (Xg.run_slnil (elem := 5) (c := c) (len := n) (by kernel_rfl) (by kernel_rfl) (by kernel_rfl)) ?_)
    refine Xg.ops_nil ?_
    refine Xg.at_cond (t := a.isNone) (by kernel_rfl) (fun xh1 => ?_) (fun xh1 => ?_)
    refine Xg.at_seq ?_
    refine Xg.at_region ?_
    refine Xg.ops_op (by kernel_rfl) (Xg.opx_pure ((Value.slice none (0 : Nat) (0 : Nat))) rfl (fun _ => by kernel_rfl) ?_)
    refine Xg.ops_nil ?_
    rotate_left
    refine Xg.at_skip ?_
    refine Xg.at_seq ?_
    refine Xg.at_region ?_
    refine Xg.ops_op (by kernel_rfl) (Xg.opx_bs (elem := 5) 1 [] [] (by kernel_rfl) (by kernel_rfl) (by decide) rfl (by kernel_rfl) (by kernel_rfl) (by kernel_rfl) (by kernel_rfl) fun xb1 => ?_)
    refine Xg.ops_op (by kernel_rfl) (Xg.opx_pure ((Value.slice a n c)) rfl (fun _ => by kernel_rfl) ?_)
    refine Xg.ops_row_ints 0 .u8 [] rfl rfl (Nat.le_of_ble_eq_true (by kernel_rfl)) ?_
    refine Xg.ops_op (by kernel_rfl) (Xg.opx_append_ints (kd := .u8) (yv := (Value.slice a n c)) (m := n) (xs := []) (elem := 5) 0 1 ys rfl (by kernel_rfl) (by kernel_rfl) (by kernel_rfl) (by kernel_rfl) (by first | rfl | assumption | omega | (simp; done) | (simp; omega)) (fun _ hS => Xg.reads_rd hR 1 rfl hS) (by first | omega | (simp only [List.length_nil, List.length_cons]; omega) | (simp; omega)) (by first | omega | (simp only [List.length_nil, List.length_cons]; omega) | (simp; omega)) fun xa1 xc1 => ?_)
    have xl1 : ([] ++ ys : List Int).length = ([] : List Int).length + n := by first | (simp; done) | (simp; omega)
    refine Xg.ops_op (by kernel_rfl) (Xg.opx_pure ((Value.slice xa1 ([] ++ ys).length xc1)) rfl (fun _ => by kernel_rfl) ?_)
    refine Xg.ops_nil ?_)
  · rw [List.nil_append, hy]
    unfold Xg.ints
    rw [hy]
    refine Xg.at_some 0 rfl hn fun hs1 hs2 => ?_
    (focus
      refine Xg.at_ret_ps (v := (Value.slice xa1 n xc1)) [1, 0] [A, ownS (5 : TypeId) (1 : Nat) (Value.slice xa1 n xc1) n (List.map (Value.int IntKind.u8) ys)] Go.Proofs.Tryd.func27 (fun _ => by kernel_rfl) (by kernel_rfl) (by kernel_rfl) ?_
      refine ⟨((xa1, xc1)), ?_, by kernel_rfl, by kernel_rfl⟩)
    exact ⟨hs1, hs2⟩
  · rw [ha] at xh1; cases xh1
end Go.Proofs.YthjhkondmobaeaaDoor

/- cart: New without a save. -/
namespace Go.Proofs.YthjhkondmobaeaaDoor
open Go.Sl Go.Xg
set_option linter.unusedVariables false
set_option linter.unusedSimpArgs false
set_option maxHeartbeats 4000000
set_option maxRecDepth 100000

theorem rep_of {xs : List Int} {n : Nat} (hl : xs.length = n) (h : ∀ i : Nat, xs.getD i 0 = 0) : xs = List.replicate n 0 := by
  apply List.ext_getElem (by rw [hl, List.length_replicate])
  intro i h1 h2
  have := h i
  rw [List.getD_eq_getElem?_getD, List.getElem?_eq_getElem h1] at this
  rw [List.getElem_replicate]
  exact this
/-- The registers at the start. -/
abbrev rg0 : Rg := ⟨0, 1, 0, 0, 0⟩
theorem new0_d (A : HP) (a : Option Addr) (n c : Nat) (B : List Int) (h : Hd) (mn : Nat) (hn : B.length = n) (hc : n ≤ c) (hm : n ≤ 100000000) (ha : a.isNone = false) (hB : isB B) (hR : Reads A 1 (.slice a n c) n (B.map (Value.int .u8))) (he : chk B = (h, 0)) (hn0 : 0 < n) (hmp : h.mp = 0) (hrm : h.rm = (mn : Int)) (hmn : mn ≤ 131072) :
    Does Tryd.prog 10 [.slice a n c, .slice none 0 0] [A] (RetE (fun x : Nat × Nat × Option Addr × Nat × Option Addr => n ≤ x.2.2.2.1) (fun x => .tuple #[.pointer (some ⟨x.1, 0, none⟩), .int .i64 0]) (fun x => [CR x.1 h x.2.2.1 n x.2.2.2.1 x.2.2.2.2 mn mn (V0 x.2.1), bts x.2.2.1 n x.2.2.2.1 B, bts x.2.2.2.2 mn mn (List.replicate mn 0), A])) := by
  have hck := check_d A a n c B hn hc (by omega) hB hR
  have hcl := clone_d A a n c B hn hn0 hm hc ha hR
  rw [he] at hck
  obtain ⟨tt, ty, mp, bk, rm, bt⟩ := h
  dsimp only at hmp hrm hck
  subst hmp hrm
  unfold hdV at hck
  dsimp only at hck
  (focus
    refine Xg.spec_of Go.Proofs.Tryd.func10 rfl Go.Proofs.Tryd.ntmps10 fun g F => ?_)
  (focus
    refine Xg.at_seq ?_
    refine Xg.at_region ?_
    refine Xg.ops_op (by kernel_rfl) (Xg.opx_pure ((Value.pointer none)) rfl (fun _ => by kernel_rfl) ?_)
    refine Xg.ops_op (by kernel_rfl) (Xg.opx_pure ((iv 0)) rfl (fun _ => by kernel_rfl) ?_)
    refine Xg.ops_nil ?_
    refine Xg.at_seq ?_
    refine Xg.at_region ?_
    refine Xg.ops_op (by kernel_rfl) (Xg.opx_pure ((Value.slice a n c)) rfl (fun _ => by kernel_rfl) ?_)
    refine Xg.ops_op (by kernel_rfl) (Xg.opx_call1' [0] [A] (fun _ => by kernel_rfl) (@hck ) (by kernel_rfl) (by kernel_rfl) (by kernel_rfl) ?_)
    refine Xg.ops_op (by kernel_rfl) (Xg.opx_pure ((Value.tuple #[Value.agg #[Value.string (St tt), iv ty, iv 0, iv bk, iv (↑mn : Int), Value.bool bt], iv 0])) rfl (fun _ => by kernel_rfl) ?_)
    refine Xg.ops_op (by kernel_rfl) (Xg.opx_pure ((Value.agg #[Value.string (St tt), iv ty, iv 0, iv bk, iv (↑mn : Int), Value.bool bt])) rfl (fun _ => by kernel_rfl) ?_)
    refine Xg.ops_op (by kernel_rfl) (Xg.opx_pure ((iv 0)) rfl (fun _ => by kernel_rfl) ?_)
    refine Xg.ops_op (by kernel_rfl) (Xg.opx_new 6 [Value.string (ByteArray.mk #[]), iv 0, iv 0, iv 0, iv 0, Value.bool false] (by kernel_rfl) (by kernel_rfl) fun xb1 => ?_)
    refine Xg.ops_op (by kernel_rfl) (Xg.opx_storen 6 (off := 0) 0 [Value.string (St tt), iv ty, iv 0, iv bk, iv (↑mn : Int), Value.bool bt] (by kernel_rfl) rfl (by kernel_rfl) (by kernel_rfl) rfl (by kernel_rfl) (Nat.le_of_ble_eq_true (by kernel_rfl)) ?_)
    refine Xg.ops_op (by kernel_rfl) (Xg.opx_pure ((iv 0)) rfl (fun _ => by kernel_rfl) ?_)
    refine Xg.ops_nil ?_
    refine Xg.at_seq ?_
    refine Xg.at_seq ?_
    refine Xg.at_region ?_
    refine Xg.ops_op (by kernel_rfl) (Xg.opx_pure ((iv 0)) rfl (fun _ => by kernel_rfl) ?_)
    refine Xg.ops_op (by kernel_rfl) (Xg.opx_pure ((Value.bool false)) rfl (fun _ => by kernel_rfl) ?_)
    refine Xg.ops_nil ?_
    refine Xg.at_false (t := false) (by kernel_rfl) rfl ?_
    refine Xg.at_skip ?_
    refine Xg.at_seq ?_
    refine Xg.at_region ?_
    refine Xg.ops_op (by kernel_rfl) (Xg.opx_pure ((pv xb1 4)) rfl (fun _ => by kernel_rfl) ?_)
    refine Xg.ops_op (by kernel_rfl) (Xg.opx_load (b := xb1) (off := ((4 : Nat))) 0 (iv (↑mn : Int)) rfl (by kernel_rfl) (by kernel_rfl) (by kernel_rfl) ?_)
    refine Xg.ops_op (by kernel_rfl) (Xg.opx_make_hid (elem := 5) (kd := .u8) (by_ := 1) (k1 := .i64) (k2 := .i64) (n := ((↑mn : Int))) (c := ((↑mn : Int))) mn mn (by kernel_rfl) (by kernel_rfl) (by kernel_rfl) (by kernel_rfl) rfl rfl (by omega) (by omega) fun xa1 xs1 xh1 xl1 xz1 => ?_)
    refine Xg.ops_op (by kernel_rfl) (Xg.opx_pure ((Value.slice xa1 xs1.length mn)) rfl (fun _ => by kernel_rfl) ?_)
    refine Xg.ops_nil ?_
    refine Xg.at_seq ?_
    refine Xg.at_seq ?_
    refine Xg.at_region ?_
    refine Xg.ops_op (by kernel_rfl) (Xg.opx_pure ((Value.slice none (0 : Nat) (0 : Nat))) rfl (fun _ => by kernel_rfl) ?_)
    refine Xg.ops_op (by kernel_rfl) (Xg.opx_pure ((iv 0)) rfl (fun _ => by kernel_rfl) ?_)
    refine Xg.ops_op (by kernel_rfl) (Xg.opx_pure ((Value.bool false)) rfl (fun _ => by kernel_rfl) ?_)
    refine Xg.ops_nil ?_
    refine Xg.at_false (t := false) (by kernel_rfl) rfl ?_
    refine Xg.at_skip ?_
    refine Xg.at_seq ?_
    refine Xg.at_draw [0, 2, 6, 8] [(5, [0, 1, 2, 3, 4, 5], Xg.CellIs (xb1) (((2 : Nat))) ((iv 0)))] (by kernel_rfl) ?_
    refine Xg.any_pure ((Value.slice a n c)) 1 (by kernel_rfl) rfl (by kernel_rfl) (by kernel_rfl) (by kernel_rfl) (by kernel_rfl) rfl (fun _ => by kernel_rfl) ?_
    refine Xg.any_pure ((Value.slice xa1 xs1.length mn)) 3 (by kernel_rfl) rfl (by kernel_rfl) (by kernel_rfl) (by kernel_rfl) (by kernel_rfl) rfl (fun _ => by kernel_rfl) ?_
    refine Xg.any_pure ((pv xb1 2)) 4 (by kernel_rfl) rfl (by kernel_rfl) (by kernel_rfl) (by kernel_rfl) (by kernel_rfl) rfl (fun _ => by kernel_rfl) ?_
    refine Xg.any_reads (iv 0) 5 0 (by kernel_rfl) rfl (by kernel_rfl) (by kernel_rfl) (by kernel_rfl) (by kernel_rfl) rfl rfl (by kernel_rfl) (Xg.cell_now (b := xb1) (off := ((2 : Nat))) 1 rfl (by kernel_rfl)) (fun _ h => Xg.run_load (by kernel_rfl) (by kernel_rfl) h) ?_
    refine Xg.any_each [0, 2] (by kernel_rfl) rfl ⟨?_, ?_, trivial⟩
    refine Xg.comes_act rfl (by kernel_rfl) (by kernel_rfl) (Xg.opx_loadn (off := 0) 6 1 [Value.string (St tt), iv ty, iv 0, iv bk, iv (↑mn : Int), Value.bool bt] (by kernel_rfl) rfl (by kernel_rfl) rfl (Xg.cells_at (by kernel_rfl)) (by kernel_rfl) ?_)
    refine Xg.acts (Xg.owes_cell 1 rfl (by kernel_rfl) Xg.owes_nil) ?_
    rotate_left
    refine Xg.comes_act rfl (by kernel_rfl) (by kernel_rfl) (Xg.opx_callE' [2] (fun xx1 => [A, bts xx1.fst n xx1.snd B, ints (5 : TypeId) IntKind.u8 xa1 mn xs1, row xb1 (29 : Nat) [Value.string (St tt), iv ty, iv 0, iv bk, iv (↑mn : Int), Value.bool bt]]) (fun _ => by kernel_rfl) (@hcl ) (by kernel_rfl) (by kernel_rfl) (by kernel_rfl) fun xx1 xh2 => ?_)
    try dsimp only at xh2
    obtain ⟨xh2_0, xh2_1⟩ := xh2
    refine Xg.acts (Xg.owes_cell 3 rfl (by kernel_rfl) Xg.owes_nil) ?_
    rotate_left
    refine Xg.any_each [2] (by kernel_rfl) rfl ⟨?_, trivial⟩
    refine Xg.comes_act rfl (by kernel_rfl) (by kernel_rfl) (Xg.opx_callE' [2] (fun xx1 => [A, bts xx1.fst n xx1.snd B, ints (5 : TypeId) IntKind.u8 xa1 mn xs1, row xb1 (29 : Nat) [Value.string (St tt), iv ty, iv 0, iv bk, iv (↑mn : Int), Value.bool bt]]) (fun _ => by kernel_rfl) (@hcl ) (by kernel_rfl) (by kernel_rfl) (by kernel_rfl) fun xx1 xh2 => ?_)
    try dsimp only at xh2
    obtain ⟨xh2_0, xh2_1⟩ := xh2
    refine Xg.acts (Xg.owes_cell 3 rfl (by kernel_rfl) Xg.owes_nil) ?_
    refine Xg.any_each [6] (by kernel_rfl) rfl ⟨?_, trivial⟩
    refine Xg.comes_act rfl (by kernel_rfl) (by kernel_rfl) (Xg.opx_call1' [] [A, bts xx1.fst n xx1.snd B, ints (5 : TypeId) IntKind.u8 xa1 mn xs1, row xb1 (29 : Nat) [Value.string (St tt), iv ty, iv 0, iv bk, iv (↑mn : Int), Value.bool bt]] (fun _ => by kernel_rfl) (@Go.Proofs.YthjhkondmobaeaaDoor.made0_d ) (by kernel_rfl) (by kernel_rfl) (by kernel_rfl) ?_)
    refine Xg.acts (Xg.owes_skip (by kernel_rfl) Xg.owes_nil) ?_
    refine Xg.any_pure ((Value.agg #[Value.string (St tt), iv ty, iv 0, iv bk, iv (↑mn : Int), Value.bool bt, Value.slice xx1.fst n xx1.snd, Value.slice xa1 xs1.length mn, Value.iface (84 : Nat) (Value.agg #[])])) 7 (by kernel_rfl) rfl (by kernel_rfl) (by kernel_rfl) (by kernel_rfl) (by kernel_rfl) rfl (fun _ => by kernel_rfl) ?_
    refine Xg.any_each [8] (by kernel_rfl) rfl ⟨?_, trivial⟩
    refine Xg.comes_act rfl (by kernel_rfl) (by kernel_rfl) (Xg.opx_box (v := (Value.agg #[Value.string (St tt), iv ty, iv 0, iv bk, iv (↑mn : Int), Value.bool bt, Value.slice xx1.fst n xx1.snd, Value.slice xa1 xs1.length mn, Value.iface (84 : Nat) (Value.agg #[])])) [Value.string (St tt), iv ty, iv 0, iv bk, iv (↑mn : Int), Value.bool bt, Value.slice xx1.fst n xx1.snd, Value.slice xa1 xs1.length mn, Value.iface (84 : Nat) (Value.agg #[])] (by kernel_rfl) (by kernel_rfl) fun xb2 => ?_)
    refine Xg.acts (Xg.owes_skip (by kernel_rfl) Xg.owes_nil) ?_
    refine Xg.any_pure ((pv xb2 0)) 9 (by kernel_rfl) rfl (by kernel_rfl) (by kernel_rfl) (by kernel_rfl) (by kernel_rfl) rfl (fun _ => by kernel_rfl) ?_
    refine Xg.any_pure ((iv 0)) 10 (by kernel_rfl) rfl (by kernel_rfl) (by kernel_rfl) (by kernel_rfl) (by kernel_rfl) rfl (fun _ => by kernel_rfl) ?_
    refine Xg.any_nil (by kernel_rfl) ?_
    rotate_left
    refine Xg.any_each [0, 6] (by kernel_rfl) rfl ⟨?_, ?_, trivial⟩
    refine Xg.comes_act rfl (by kernel_rfl) (by kernel_rfl) (Xg.opx_loadn (off := 0) 6 3 [Value.string (St tt), iv ty, iv 0, iv bk, iv (↑mn : Int), Value.bool bt] (by kernel_rfl) rfl (by kernel_rfl) rfl (Xg.cells_at (by kernel_rfl)) (by kernel_rfl) ?_)
    refine Xg.acts (Xg.owes_cell 3 rfl (by kernel_rfl) Xg.owes_nil) ?_
    rotate_left
    refine Xg.comes_act rfl (by kernel_rfl) (by kernel_rfl) (Xg.opx_call1' [] [A, bts xx1.fst n xx1.snd B, ints (5 : TypeId) IntKind.u8 xa1 mn xs1, row xb1 (29 : Nat) [Value.string (St tt), iv ty, iv 0, iv bk, iv (↑mn : Int), Value.bool bt]] (fun _ => by kernel_rfl) (@Go.Proofs.YthjhkondmobaeaaDoor.made0_d ) (by kernel_rfl) (by kernel_rfl) (by kernel_rfl) ?_)
    refine Xg.acts (Xg.owes_skip (by kernel_rfl) Xg.owes_nil) ?_
    rotate_left
    rotate_left
    refine Xg.any_each [6] (by kernel_rfl) rfl ⟨?_, trivial⟩
    refine Xg.comes_act rfl (by kernel_rfl) (by kernel_rfl) (Xg.opx_call1' [] [A, bts xx1.fst n xx1.snd B, ints (5 : TypeId) IntKind.u8 xa1 mn xs1, row xb1 (29 : Nat) [Value.string (St tt), iv ty, iv 0, iv bk, iv (↑mn : Int), Value.bool bt]] (fun _ => by kernel_rfl) (@Go.Proofs.YthjhkondmobaeaaDoor.made0_d ) (by kernel_rfl) (by kernel_rfl) (by kernel_rfl) ?_)
    refine Xg.acts (Xg.owes_skip (by kernel_rfl) Xg.owes_nil) ?_
    refine Xg.any_pure ((Value.agg #[Value.string (St tt), iv ty, iv 0, iv bk, iv (↑mn : Int), Value.bool bt, Value.slice xx1.fst n xx1.snd, Value.slice xa1 xs1.length mn, Value.iface (84 : Nat) (Value.agg #[])])) 7 (by kernel_rfl) rfl (by kernel_rfl) (by kernel_rfl) (by kernel_rfl) (by kernel_rfl) rfl (fun _ => by kernel_rfl) ?_
    refine Xg.any_each [8] (by kernel_rfl) rfl ⟨?_, trivial⟩
    refine Xg.comes_act rfl (by kernel_rfl) (by kernel_rfl) (Xg.opx_box (v := (Value.agg #[Value.string (St tt), iv ty, iv 0, iv bk, iv (↑mn : Int), Value.bool bt, Value.slice xx1.fst n xx1.snd, Value.slice xa1 xs1.length mn, Value.iface (84 : Nat) (Value.agg #[])])) [Value.string (St tt), iv ty, iv 0, iv bk, iv (↑mn : Int), Value.bool bt, Value.slice xx1.fst n xx1.snd, Value.slice xa1 xs1.length mn, Value.iface (84 : Nat) (Value.agg #[])] (by kernel_rfl) (by kernel_rfl) fun xb2 => ?_)
    refine Xg.acts (Xg.owes_skip (by kernel_rfl) Xg.owes_nil) ?_
    refine Xg.any_pure ((pv xb2 0)) 9 (by kernel_rfl) rfl (by kernel_rfl) (by kernel_rfl) (by kernel_rfl) (by kernel_rfl) rfl (fun _ => by kernel_rfl) ?_
    refine Xg.any_pure ((iv 0)) 10 (by kernel_rfl) rfl (by kernel_rfl) (by kernel_rfl) (by kernel_rfl) (by kernel_rfl) rfl (fun _ => by kernel_rfl) ?_
    refine Xg.any_nil (by kernel_rfl) ?_
    rotate_left
    refine Xg.any_each [0] (by kernel_rfl) rfl ⟨?_, trivial⟩
    refine Xg.comes_act rfl (by kernel_rfl) (by kernel_rfl) (Xg.opx_loadn (off := 0) 6 3 [Value.string (St tt), iv ty, iv 0, iv bk, iv (↑mn : Int), Value.bool bt] (by kernel_rfl) rfl (by kernel_rfl) rfl (Xg.cells_at (by kernel_rfl)) (by kernel_rfl) ?_)
    refine Xg.acts (Xg.owes_cell 3 rfl (by kernel_rfl) Xg.owes_nil) ?_
    refine Xg.any_pure ((Value.agg #[Value.string (St tt), iv ty, iv 0, iv bk, iv (↑mn : Int), Value.bool bt, Value.slice xx1.fst n xx1.snd, Value.slice xa1 xs1.length mn, Value.iface (84 : Nat) (Value.agg #[])])) 7 (by kernel_rfl) rfl (by kernel_rfl) (by kernel_rfl) (by kernel_rfl) (by kernel_rfl) rfl (fun _ => by kernel_rfl) ?_
    refine Xg.any_each [8] (by kernel_rfl) rfl ⟨?_, trivial⟩
    refine Xg.comes_act rfl (by kernel_rfl) (by kernel_rfl) (Xg.opx_box (v := (Value.agg #[Value.string (St tt), iv ty, iv 0, iv bk, iv (↑mn : Int), Value.bool bt, Value.slice xx1.fst n xx1.snd, Value.slice xa1 xs1.length mn, Value.iface (84 : Nat) (Value.agg #[])])) [Value.string (St tt), iv ty, iv 0, iv bk, iv (↑mn : Int), Value.bool bt, Value.slice xx1.fst n xx1.snd, Value.slice xa1 xs1.length mn, Value.iface (84 : Nat) (Value.agg #[])] (by kernel_rfl) (by kernel_rfl) fun xb2 => ?_)
    refine Xg.acts (Xg.owes_skip (by kernel_rfl) Xg.owes_nil) ?_
    refine Xg.any_pure ((pv xb2 0)) 9 (by kernel_rfl) rfl (by kernel_rfl) (by kernel_rfl) (by kernel_rfl) (by kernel_rfl) rfl (fun _ => by kernel_rfl) ?_
    refine Xg.any_pure ((iv 0)) 10 (by kernel_rfl) rfl (by kernel_rfl) (by kernel_rfl) (by kernel_rfl) (by kernel_rfl) rfl (fun _ => by kernel_rfl) ?_
    refine Xg.any_nil (by kernel_rfl) ?_)
  all_goals (
    have hx := rep_of xl1 xz1
    unfold Xg.ints
    rw [xl1, hx])
  all_goals first
    | (refine Xg.at_ret_ps (v := .tuple #[.pointer (some ⟨xb2, 0, none⟩), .int .i64 0]) [0, 2, 3, 1] _ Tryd.func10 (fun _ => by kernel_rfl) (by kernel_rfl) rfl ⟨(xb2, 0, xx1.1, xx1.2, xa1), (by show n ≤ xx1.2; first | assumption | omega), rfl, ?_⟩; rfl)
    | (refine Xg.at_ret_ps (v := .tuple #[.pointer (some ⟨xb2, 0, none⟩), .int .i64 0]) [0, 2, 3, 1] _ Tryd.func10 (fun _ => by kernel_rfl) (by kernel_rfl) rfl ⟨(xb2, 0, xx1.1, xx1.2, xa1), (by show n ≤ xx1.2; first | assumption | omega), rfl, ?_⟩; rfl)
theorem new1_d (A : HP) (a : Option Addr) (n c : Nat) (B : List Int) (h : Hd) (mn : Nat) (hn : B.length = n) (hc : n ≤ c) (hm : n ≤ 100000000) (ha : a.isNone = false) (hB : isB B) (hR : Reads A 1 (.slice a n c) n (B.map (Value.int .u8))) (he : chk B = (h, 0)) (hn0 : 0 < n) (hmp : h.mp = 1) (hrm : h.rm = (mn : Int)) (hmn : mn ≤ 131072) :
    Does Tryd.prog 10 [.slice a n c, .slice none 0 0] [A] (RetE (fun x : Nat × Nat × Option Addr × Nat × Option Addr => n ≤ x.2.2.2.1) (fun x => .tuple #[.pointer (some ⟨x.1, 0, none⟩), .int .i64 0]) (fun x => [CR x.1 h x.2.2.1 n x.2.2.2.1 x.2.2.2.2 mn mn (V1 x.2.1), bts x.2.2.1 n x.2.2.2.1 B, bts x.2.2.2.2 mn mn (List.replicate mn 0), MR1 x.2.1 rg0, A])) := by
  have hck := check_d A a n c B hn hc (by omega) hB hR
  have hcl := clone_d A a n c B hn hn0 hm hc ha hR
  rw [he] at hck
  obtain ⟨tt, ty, mp, bk, rm, bt⟩ := h
  dsimp only at hmp hrm hck
  subst hmp hrm
  unfold hdV at hck
  dsimp only at hck
  (focus
    refine Xg.spec_of Go.Proofs.Tryd.func10 rfl Go.Proofs.Tryd.ntmps10 fun g F => ?_)
  (focus
    refine Xg.at_seq ?_
    refine Xg.at_region ?_
    refine Xg.ops_op (by kernel_rfl) (Xg.opx_pure ((Value.pointer none)) rfl (fun _ => by kernel_rfl) ?_)
    refine Xg.ops_op (by kernel_rfl) (Xg.opx_pure ((iv 0)) rfl (fun _ => by kernel_rfl) ?_)
    refine Xg.ops_nil ?_
    refine Xg.at_seq ?_
    refine Xg.at_region ?_
    refine Xg.ops_op (by kernel_rfl) (Xg.opx_pure ((Value.slice a n c)) rfl (fun _ => by kernel_rfl) ?_)
    refine Xg.ops_op (by kernel_rfl) (Xg.opx_call1' [0] [A] (fun _ => by kernel_rfl) (@hck ) (by kernel_rfl) (by kernel_rfl) (by kernel_rfl) ?_)
    refine Xg.ops_op (by kernel_rfl) (Xg.opx_pure ((Value.tuple #[Value.agg #[Value.string (St tt), iv ty, iv 1, iv bk, iv (↑mn : Int), Value.bool bt], iv 0])) rfl (fun _ => by kernel_rfl) ?_)
    refine Xg.ops_op (by kernel_rfl) (Xg.opx_pure ((Value.agg #[Value.string (St tt), iv ty, iv 1, iv bk, iv (↑mn : Int), Value.bool bt])) rfl (fun _ => by kernel_rfl) ?_)
    refine Xg.ops_op (by kernel_rfl) (Xg.opx_pure ((iv 0)) rfl (fun _ => by kernel_rfl) ?_)
    refine Xg.ops_op (by kernel_rfl) (Xg.opx_new 6 [Value.string (ByteArray.mk #[]), iv 0, iv 0, iv 0, iv 0, Value.bool false] (by kernel_rfl) (by kernel_rfl) fun xb1 => ?_)
    refine Xg.ops_op (by kernel_rfl) (Xg.opx_storen 6 (off := 0) 0 [Value.string (St tt), iv ty, iv 1, iv bk, iv (↑mn : Int), Value.bool bt] (by kernel_rfl) rfl (by kernel_rfl) (by kernel_rfl) rfl (by kernel_rfl) (Nat.le_of_ble_eq_true (by kernel_rfl)) ?_)
    refine Xg.ops_op (by kernel_rfl) (Xg.opx_pure ((iv 0)) rfl (fun _ => by kernel_rfl) ?_)
    refine Xg.ops_nil ?_
    refine Xg.at_seq ?_
    refine Xg.at_seq ?_
    refine Xg.at_region ?_
    refine Xg.ops_op (by kernel_rfl) (Xg.opx_pure ((iv 0)) rfl (fun _ => by kernel_rfl) ?_)
    refine Xg.ops_op (by kernel_rfl) (Xg.opx_pure ((Value.bool false)) rfl (fun _ => by kernel_rfl) ?_)
    refine Xg.ops_nil ?_
    refine Xg.at_false (t := false) (by kernel_rfl) rfl ?_
    refine Xg.at_skip ?_
    refine Xg.at_seq ?_
    refine Xg.at_region ?_
    refine Xg.ops_op (by kernel_rfl) (Xg.opx_pure ((pv xb1 4)) rfl (fun _ => by kernel_rfl) ?_)
    refine Xg.ops_op (by kernel_rfl) (Xg.opx_load (b := xb1) (off := ((4 : Nat))) 0 (iv (↑mn : Int)) rfl (by kernel_rfl) (by kernel_rfl) (by kernel_rfl) ?_)
    refine Xg.ops_op (by kernel_rfl) (Xg.opx_make_hid (elem := 5) (kd := .u8) (by_ := 1) (k1 := .i64) (k2 := .i64) (n := ((↑mn : Int))) (c := ((↑mn : Int))) mn mn (by kernel_rfl) (by kernel_rfl) (by kernel_rfl) (by kernel_rfl) rfl rfl (by omega) (by omega) fun xa1 xs1 xh1 xl1 xz1 => ?_)
    refine Xg.ops_op (by kernel_rfl) (Xg.opx_pure ((Value.slice xa1 xs1.length mn)) rfl (fun _ => by kernel_rfl) ?_)
    refine Xg.ops_nil ?_
    refine Xg.at_seq ?_
    refine Xg.at_seq ?_
    refine Xg.at_region ?_
    refine Xg.ops_op (by kernel_rfl) (Xg.opx_pure ((Value.slice none (0 : Nat) (0 : Nat))) rfl (fun _ => by kernel_rfl) ?_)
    refine Xg.ops_op (by kernel_rfl) (Xg.opx_pure ((iv 0)) rfl (fun _ => by kernel_rfl) ?_)
    refine Xg.ops_op (by kernel_rfl) (Xg.opx_pure ((Value.bool false)) rfl (fun _ => by kernel_rfl) ?_)
    refine Xg.ops_nil ?_
    refine Xg.at_false (t := false) (by kernel_rfl) rfl ?_
    refine Xg.at_skip ?_
    refine Xg.at_seq ?_
    refine Xg.at_draw [0, 2, 6, 8] [(5, [0, 1, 2, 3, 4, 5], Xg.CellIs (xb1) (((2 : Nat))) ((iv 1)))] (by kernel_rfl) ?_
    refine Xg.any_pure ((Value.slice a n c)) 1 (by kernel_rfl) rfl (by kernel_rfl) (by kernel_rfl) (by kernel_rfl) (by kernel_rfl) rfl (fun _ => by kernel_rfl) ?_
    refine Xg.any_pure ((Value.slice xa1 xs1.length mn)) 3 (by kernel_rfl) rfl (by kernel_rfl) (by kernel_rfl) (by kernel_rfl) (by kernel_rfl) rfl (fun _ => by kernel_rfl) ?_
    refine Xg.any_pure ((pv xb1 2)) 4 (by kernel_rfl) rfl (by kernel_rfl) (by kernel_rfl) (by kernel_rfl) (by kernel_rfl) rfl (fun _ => by kernel_rfl) ?_
    refine Xg.any_reads (iv 1) 5 0 (by kernel_rfl) rfl (by kernel_rfl) (by kernel_rfl) (by kernel_rfl) (by kernel_rfl) rfl rfl (by kernel_rfl) (Xg.cell_now (b := xb1) (off := ((2 : Nat))) 1 rfl (by kernel_rfl)) (fun _ h => Xg.run_load (by kernel_rfl) (by kernel_rfl) h) ?_
    refine Xg.any_each [0, 2] (by kernel_rfl) rfl ⟨?_, ?_, trivial⟩
    refine Xg.comes_act rfl (by kernel_rfl) (by kernel_rfl) (Xg.opx_loadn (off := 0) 6 1 [Value.string (St tt), iv ty, iv 1, iv bk, iv (↑mn : Int), Value.bool bt] (by kernel_rfl) rfl (by kernel_rfl) rfl (Xg.cells_at (by kernel_rfl)) (by kernel_rfl) ?_)
    refine Xg.acts (Xg.owes_cell 1 rfl (by kernel_rfl) Xg.owes_nil) ?_
    rotate_left
    refine Xg.comes_act rfl (by kernel_rfl) (by kernel_rfl) (Xg.opx_callE' [2] (fun xx1 => [A, bts xx1.fst n xx1.snd B, ints (5 : TypeId) IntKind.u8 xa1 mn xs1, row xb1 (29 : Nat) [Value.string (St tt), iv ty, iv 1, iv bk, iv (↑mn : Int), Value.bool bt]]) (fun _ => by kernel_rfl) (@hcl ) (by kernel_rfl) (by kernel_rfl) (by kernel_rfl) fun xx1 xh2 => ?_)
    try dsimp only at xh2
    obtain ⟨xh2_0, xh2_1⟩ := xh2
    refine Xg.acts (Xg.owes_cell 3 rfl (by kernel_rfl) Xg.owes_nil) ?_
    rotate_left
    refine Xg.any_each [2] (by kernel_rfl) rfl ⟨?_, trivial⟩
    refine Xg.comes_act rfl (by kernel_rfl) (by kernel_rfl) (Xg.opx_callE' [2] (fun xx1 => [A, bts xx1.fst n xx1.snd B, ints (5 : TypeId) IntKind.u8 xa1 mn xs1, row xb1 (29 : Nat) [Value.string (St tt), iv ty, iv 1, iv bk, iv (↑mn : Int), Value.bool bt]]) (fun _ => by kernel_rfl) (@hcl ) (by kernel_rfl) (by kernel_rfl) (by kernel_rfl) fun xx1 xh2 => ?_)
    try dsimp only at xh2
    obtain ⟨xh2_0, xh2_1⟩ := xh2
    refine Xg.acts (Xg.owes_cell 3 rfl (by kernel_rfl) Xg.owes_nil) ?_
    refine Xg.any_each [6] (by kernel_rfl) rfl ⟨?_, trivial⟩
    refine Xg.comes_act rfl (by kernel_rfl) (by kernel_rfl) (Xg.opx_callE' [] (fun xx2 => [MR1 xx2 (Rg.mk (0 : Int) (1 : Int) (0 : Int) (0 : Int) (0 : Int)), A, bts xx1.fst n xx1.snd B, ints (5 : TypeId) IntKind.u8 xa1 mn xs1, row xb1 (29 : Nat) [Value.string (St tt), iv ty, iv 1, iv bk, iv (↑mn : Int), Value.bool bt]]) (fun _ => by kernel_rfl) (@Go.Proofs.YthjhkondmobaeaaDoor.made1_d ) (by kernel_rfl) (by kernel_rfl) (by kernel_rfl) fun xx2 xh3 => ?_)
    try dsimp only at xh3
    refine Xg.acts (Xg.owes_skip (by kernel_rfl) Xg.owes_nil) ?_
    refine Xg.any_pure ((Value.agg #[Value.string (St tt), iv ty, iv 1, iv bk, iv (↑mn : Int), Value.bool bt, Value.slice xx1.fst n xx1.snd, Value.slice xa1 xs1.length mn, Value.iface (72 : Nat) (pv xx2 0)])) 7 (by kernel_rfl) rfl (by kernel_rfl) (by kernel_rfl) (by kernel_rfl) (by kernel_rfl) rfl (fun _ => by kernel_rfl) ?_
    refine Xg.any_each [8] (by kernel_rfl) rfl ⟨?_, trivial⟩
    refine Xg.comes_act rfl (by kernel_rfl) (by kernel_rfl) (Xg.opx_box (v := (Value.agg #[Value.string (St tt), iv ty, iv 1, iv bk, iv (↑mn : Int), Value.bool bt, Value.slice xx1.fst n xx1.snd, Value.slice xa1 xs1.length mn, Value.iface (72 : Nat) (pv xx2 0)])) [Value.string (St tt), iv ty, iv 1, iv bk, iv (↑mn : Int), Value.bool bt, Value.slice xx1.fst n xx1.snd, Value.slice xa1 xs1.length mn, Value.iface (72 : Nat) (pv xx2 0)] (by kernel_rfl) (by kernel_rfl) fun xb2 => ?_)
    refine Xg.acts (Xg.owes_skip (by kernel_rfl) Xg.owes_nil) ?_
    refine Xg.any_pure ((pv xb2 0)) 9 (by kernel_rfl) rfl (by kernel_rfl) (by kernel_rfl) (by kernel_rfl) (by kernel_rfl) rfl (fun _ => by kernel_rfl) ?_
    refine Xg.any_pure ((iv 0)) 10 (by kernel_rfl) rfl (by kernel_rfl) (by kernel_rfl) (by kernel_rfl) (by kernel_rfl) rfl (fun _ => by kernel_rfl) ?_
    refine Xg.any_nil (by kernel_rfl) ?_
    rotate_left
    refine Xg.any_each [0, 6] (by kernel_rfl) rfl ⟨?_, ?_, trivial⟩
    refine Xg.comes_act rfl (by kernel_rfl) (by kernel_rfl) (Xg.opx_loadn (off := 0) 6 3 [Value.string (St tt), iv ty, iv 1, iv bk, iv (↑mn : Int), Value.bool bt] (by kernel_rfl) rfl (by kernel_rfl) rfl (Xg.cells_at (by kernel_rfl)) (by kernel_rfl) ?_)
    refine Xg.acts (Xg.owes_cell 3 rfl (by kernel_rfl) Xg.owes_nil) ?_
    rotate_left
    refine Xg.comes_act rfl (by kernel_rfl) (by kernel_rfl) (Xg.opx_callE' [] (fun xx2 => [MR1 xx2 (Rg.mk (0 : Int) (1 : Int) (0 : Int) (0 : Int) (0 : Int)), A, bts xx1.fst n xx1.snd B, ints (5 : TypeId) IntKind.u8 xa1 mn xs1, row xb1 (29 : Nat) [Value.string (St tt), iv ty, iv 1, iv bk, iv (↑mn : Int), Value.bool bt]]) (fun _ => by kernel_rfl) (@Go.Proofs.YthjhkondmobaeaaDoor.made1_d ) (by kernel_rfl) (by kernel_rfl) (by kernel_rfl) fun xx2 xh3 => ?_)
    try dsimp only at xh3
    refine Xg.acts (Xg.owes_skip (by kernel_rfl) Xg.owes_nil) ?_
    rotate_left
    rotate_left
    refine Xg.any_each [6] (by kernel_rfl) rfl ⟨?_, trivial⟩
    refine Xg.comes_act rfl (by kernel_rfl) (by kernel_rfl) (Xg.opx_callE' [] (fun xx2 => [MR1 xx2 (Rg.mk (0 : Int) (1 : Int) (0 : Int) (0 : Int) (0 : Int)), A, bts xx1.fst n xx1.snd B, ints (5 : TypeId) IntKind.u8 xa1 mn xs1, row xb1 (29 : Nat) [Value.string (St tt), iv ty, iv 1, iv bk, iv (↑mn : Int), Value.bool bt]]) (fun _ => by kernel_rfl) (@Go.Proofs.YthjhkondmobaeaaDoor.made1_d ) (by kernel_rfl) (by kernel_rfl) (by kernel_rfl) fun xx2 xh3 => ?_)
    try dsimp only at xh3
    refine Xg.acts (Xg.owes_skip (by kernel_rfl) Xg.owes_nil) ?_
    refine Xg.any_pure ((Value.agg #[Value.string (St tt), iv ty, iv 1, iv bk, iv (↑mn : Int), Value.bool bt, Value.slice xx1.fst n xx1.snd, Value.slice xa1 xs1.length mn, Value.iface (72 : Nat) (pv xx2 0)])) 7 (by kernel_rfl) rfl (by kernel_rfl) (by kernel_rfl) (by kernel_rfl) (by kernel_rfl) rfl (fun _ => by kernel_rfl) ?_
    refine Xg.any_each [8] (by kernel_rfl) rfl ⟨?_, trivial⟩
    refine Xg.comes_act rfl (by kernel_rfl) (by kernel_rfl) (Xg.opx_box (v := (Value.agg #[Value.string (St tt), iv ty, iv 1, iv bk, iv (↑mn : Int), Value.bool bt, Value.slice xx1.fst n xx1.snd, Value.slice xa1 xs1.length mn, Value.iface (72 : Nat) (pv xx2 0)])) [Value.string (St tt), iv ty, iv 1, iv bk, iv (↑mn : Int), Value.bool bt, Value.slice xx1.fst n xx1.snd, Value.slice xa1 xs1.length mn, Value.iface (72 : Nat) (pv xx2 0)] (by kernel_rfl) (by kernel_rfl) fun xb2 => ?_)
    refine Xg.acts (Xg.owes_skip (by kernel_rfl) Xg.owes_nil) ?_
    refine Xg.any_pure ((pv xb2 0)) 9 (by kernel_rfl) rfl (by kernel_rfl) (by kernel_rfl) (by kernel_rfl) (by kernel_rfl) rfl (fun _ => by kernel_rfl) ?_
    refine Xg.any_pure ((iv 0)) 10 (by kernel_rfl) rfl (by kernel_rfl) (by kernel_rfl) (by kernel_rfl) (by kernel_rfl) rfl (fun _ => by kernel_rfl) ?_
    refine Xg.any_nil (by kernel_rfl) ?_
    rotate_left
    refine Xg.any_each [0] (by kernel_rfl) rfl ⟨?_, trivial⟩
    refine Xg.comes_act rfl (by kernel_rfl) (by kernel_rfl) (Xg.opx_loadn (off := 0) 6 4 [Value.string (St tt), iv ty, iv 1, iv bk, iv (↑mn : Int), Value.bool bt] (by kernel_rfl) rfl (by kernel_rfl) rfl (Xg.cells_at (by kernel_rfl)) (by kernel_rfl) ?_)
    refine Xg.acts (Xg.owes_cell 4 rfl (by kernel_rfl) Xg.owes_nil) ?_
    refine Xg.any_pure ((Value.agg #[Value.string (St tt), iv ty, iv 1, iv bk, iv (↑mn : Int), Value.bool bt, Value.slice xx1.fst n xx1.snd, Value.slice xa1 xs1.length mn, Value.iface (72 : Nat) (pv xx2 0)])) 7 (by kernel_rfl) rfl (by kernel_rfl) (by kernel_rfl) (by kernel_rfl) (by kernel_rfl) rfl (fun _ => by kernel_rfl) ?_
    refine Xg.any_each [8] (by kernel_rfl) rfl ⟨?_, trivial⟩
    refine Xg.comes_act rfl (by kernel_rfl) (by kernel_rfl) (Xg.opx_box (v := (Value.agg #[Value.string (St tt), iv ty, iv 1, iv bk, iv (↑mn : Int), Value.bool bt, Value.slice xx1.fst n xx1.snd, Value.slice xa1 xs1.length mn, Value.iface (72 : Nat) (pv xx2 0)])) [Value.string (St tt), iv ty, iv 1, iv bk, iv (↑mn : Int), Value.bool bt, Value.slice xx1.fst n xx1.snd, Value.slice xa1 xs1.length mn, Value.iface (72 : Nat) (pv xx2 0)] (by kernel_rfl) (by kernel_rfl) fun xb2 => ?_)
    refine Xg.acts (Xg.owes_skip (by kernel_rfl) Xg.owes_nil) ?_
    refine Xg.any_pure ((pv xb2 0)) 9 (by kernel_rfl) rfl (by kernel_rfl) (by kernel_rfl) (by kernel_rfl) (by kernel_rfl) rfl (fun _ => by kernel_rfl) ?_
    refine Xg.any_pure ((iv 0)) 10 (by kernel_rfl) rfl (by kernel_rfl) (by kernel_rfl) (by kernel_rfl) (by kernel_rfl) rfl (fun _ => by kernel_rfl) ?_
    refine Xg.any_nil (by kernel_rfl) ?_)
  all_goals (
    have hx := rep_of xl1 xz1
    unfold Xg.ints
    rw [xl1, hx])
  all_goals first
    | (refine Xg.at_ret_ps (v := .tuple #[.pointer (some ⟨xb2, 0, none⟩), .int .i64 0]) [0, 3, 4, 1, 2] _ Tryd.func10 (fun _ => by kernel_rfl) (by kernel_rfl) rfl ⟨(xb2, xx2, xx1.1, xx1.2, xa1), (by show n ≤ xx1.2; first | assumption | omega), rfl, ?_⟩; rfl)
    | (refine Xg.at_ret_ps (v := .tuple #[.pointer (some ⟨xb2, 0, none⟩), .int .i64 0]) [0, 3, 4, 2, 1] _ Tryd.func10 (fun _ => by kernel_rfl) (by kernel_rfl) rfl ⟨(xb2, xx2, xx1.1, xx1.2, xa1), (by show n ≤ xx1.2; first | assumption | omega), rfl, ?_⟩; rfl)
theorem new2_d (A : HP) (a : Option Addr) (n c : Nat) (B : List Int) (h : Hd) (mn : Nat) (hn : B.length = n) (hc : n ≤ c) (hm : n ≤ 100000000) (ha : a.isNone = false) (hB : isB B) (hR : Reads A 1 (.slice a n c) n (B.map (Value.int .u8))) (he : chk B = (h, 0)) (hn0 : 0 < n) (hmp : h.mp = 2) (hrm : h.rm = (mn : Int)) (hmn : mn ≤ 131072) :
    Does Tryd.prog 10 [.slice a n c, .slice none 0 0] [A] (RetE (fun x : Nat × Nat × Option Addr × Nat × Option Addr => n ≤ x.2.2.2.1) (fun x => .tuple #[.pointer (some ⟨x.1, 0, none⟩), .int .i64 0]) (fun x => [CR x.1 h x.2.2.1 n x.2.2.2.1 x.2.2.2.2 mn mn (V2 x.2.1), bts x.2.2.1 n x.2.2.2.1 B, bts x.2.2.2.2 mn mn (List.replicate mn 0), MR2 x.2.1 rg0, A])) := by
  have hck := check_d A a n c B hn hc (by omega) hB hR
  have hcl := clone_d A a n c B hn hn0 hm hc ha hR
  rw [he] at hck
  obtain ⟨tt, ty, mp, bk, rm, bt⟩ := h
  dsimp only at hmp hrm hck
  subst hmp hrm
  unfold hdV at hck
  dsimp only at hck
  (focus
    refine Xg.spec_of Go.Proofs.Tryd.func10 rfl Go.Proofs.Tryd.ntmps10 fun g F => ?_)
  (focus
    refine Xg.at_seq ?_
    refine Xg.at_region ?_
    refine Xg.ops_op (by kernel_rfl) (Xg.opx_pure ((Value.pointer none)) rfl (fun _ => by kernel_rfl) ?_)
    refine Xg.ops_op (by kernel_rfl) (Xg.opx_pure ((iv 0)) rfl (fun _ => by kernel_rfl) ?_)
    refine Xg.ops_nil ?_
    refine Xg.at_seq ?_
    refine Xg.at_region ?_
    refine Xg.ops_op (by kernel_rfl) (Xg.opx_pure ((Value.slice a n c)) rfl (fun _ => by kernel_rfl) ?_)
    refine Xg.ops_op (by kernel_rfl) (Xg.opx_call1' [0] [A] (fun _ => by kernel_rfl) (@hck ) (by kernel_rfl) (by kernel_rfl) (by kernel_rfl) ?_)
    refine Xg.ops_op (by kernel_rfl) (Xg.opx_pure ((Value.tuple #[Value.agg #[Value.string (St tt), iv ty, iv 2, iv bk, iv (↑mn : Int), Value.bool bt], iv 0])) rfl (fun _ => by kernel_rfl) ?_)
    refine Xg.ops_op (by kernel_rfl) (Xg.opx_pure ((Value.agg #[Value.string (St tt), iv ty, iv 2, iv bk, iv (↑mn : Int), Value.bool bt])) rfl (fun _ => by kernel_rfl) ?_)
    refine Xg.ops_op (by kernel_rfl) (Xg.opx_pure ((iv 0)) rfl (fun _ => by kernel_rfl) ?_)
    refine Xg.ops_op (by kernel_rfl) (Xg.opx_new 6 [Value.string (ByteArray.mk #[]), iv 0, iv 0, iv 0, iv 0, Value.bool false] (by kernel_rfl) (by kernel_rfl) fun xb1 => ?_)
    refine Xg.ops_op (by kernel_rfl) (Xg.opx_storen 6 (off := 0) 0 [Value.string (St tt), iv ty, iv 2, iv bk, iv (↑mn : Int), Value.bool bt] (by kernel_rfl) rfl (by kernel_rfl) (by kernel_rfl) rfl (by kernel_rfl) (Nat.le_of_ble_eq_true (by kernel_rfl)) ?_)
    refine Xg.ops_op (by kernel_rfl) (Xg.opx_pure ((iv 0)) rfl (fun _ => by kernel_rfl) ?_)
    refine Xg.ops_nil ?_
    refine Xg.at_seq ?_
    refine Xg.at_seq ?_
    refine Xg.at_region ?_
    refine Xg.ops_op (by kernel_rfl) (Xg.opx_pure ((iv 0)) rfl (fun _ => by kernel_rfl) ?_)
    refine Xg.ops_op (by kernel_rfl) (Xg.opx_pure ((Value.bool false)) rfl (fun _ => by kernel_rfl) ?_)
    refine Xg.ops_nil ?_
    refine Xg.at_false (t := false) (by kernel_rfl) rfl ?_
    refine Xg.at_skip ?_
    refine Xg.at_seq ?_
    refine Xg.at_region ?_
    refine Xg.ops_op (by kernel_rfl) (Xg.opx_pure ((pv xb1 4)) rfl (fun _ => by kernel_rfl) ?_)
    refine Xg.ops_op (by kernel_rfl) (Xg.opx_load (b := xb1) (off := ((4 : Nat))) 0 (iv (↑mn : Int)) rfl (by kernel_rfl) (by kernel_rfl) (by kernel_rfl) ?_)
    refine Xg.ops_op (by kernel_rfl) (Xg.opx_make_hid (elem := 5) (kd := .u8) (by_ := 1) (k1 := .i64) (k2 := .i64) (n := ((↑mn : Int))) (c := ((↑mn : Int))) mn mn (by kernel_rfl) (by kernel_rfl) (by kernel_rfl) (by kernel_rfl) rfl rfl (by omega) (by omega) fun xa1 xs1 xh1 xl1 xz1 => ?_)
    refine Xg.ops_op (by kernel_rfl) (Xg.opx_pure ((Value.slice xa1 xs1.length mn)) rfl (fun _ => by kernel_rfl) ?_)
    refine Xg.ops_nil ?_
    refine Xg.at_seq ?_
    refine Xg.at_seq ?_
    refine Xg.at_region ?_
    refine Xg.ops_op (by kernel_rfl) (Xg.opx_pure ((Value.slice none (0 : Nat) (0 : Nat))) rfl (fun _ => by kernel_rfl) ?_)
    refine Xg.ops_op (by kernel_rfl) (Xg.opx_pure ((iv 0)) rfl (fun _ => by kernel_rfl) ?_)
    refine Xg.ops_op (by kernel_rfl) (Xg.opx_pure ((Value.bool false)) rfl (fun _ => by kernel_rfl) ?_)
    refine Xg.ops_nil ?_
    refine Xg.at_false (t := false) (by kernel_rfl) rfl ?_
    refine Xg.at_skip ?_
    refine Xg.at_seq ?_
    refine Xg.at_draw [0, 2, 6, 8] [(5, [0, 1, 2, 3, 4, 5], Xg.CellIs (xb1) (((2 : Nat))) ((iv 2)))] (by kernel_rfl) ?_
    refine Xg.any_pure ((Value.slice a n c)) 1 (by kernel_rfl) rfl (by kernel_rfl) (by kernel_rfl) (by kernel_rfl) (by kernel_rfl) rfl (fun _ => by kernel_rfl) ?_
    refine Xg.any_pure ((Value.slice xa1 xs1.length mn)) 3 (by kernel_rfl) rfl (by kernel_rfl) (by kernel_rfl) (by kernel_rfl) (by kernel_rfl) rfl (fun _ => by kernel_rfl) ?_
    refine Xg.any_pure ((pv xb1 2)) 4 (by kernel_rfl) rfl (by kernel_rfl) (by kernel_rfl) (by kernel_rfl) (by kernel_rfl) rfl (fun _ => by kernel_rfl) ?_
    refine Xg.any_reads (iv 2) 5 0 (by kernel_rfl) rfl (by kernel_rfl) (by kernel_rfl) (by kernel_rfl) (by kernel_rfl) rfl rfl (by kernel_rfl) (Xg.cell_now (b := xb1) (off := ((2 : Nat))) 1 rfl (by kernel_rfl)) (fun _ h => Xg.run_load (by kernel_rfl) (by kernel_rfl) h) ?_
    refine Xg.any_each [0, 2] (by kernel_rfl) rfl ⟨?_, ?_, trivial⟩
    refine Xg.comes_act rfl (by kernel_rfl) (by kernel_rfl) (Xg.opx_loadn (off := 0) 6 1 [Value.string (St tt), iv ty, iv 2, iv bk, iv (↑mn : Int), Value.bool bt] (by kernel_rfl) rfl (by kernel_rfl) rfl (Xg.cells_at (by kernel_rfl)) (by kernel_rfl) ?_)
    refine Xg.acts (Xg.owes_cell 1 rfl (by kernel_rfl) Xg.owes_nil) ?_
    rotate_left
    refine Xg.comes_act rfl (by kernel_rfl) (by kernel_rfl) (Xg.opx_callE' [2] (fun xx1 => [A, bts xx1.fst n xx1.snd B, ints (5 : TypeId) IntKind.u8 xa1 mn xs1, row xb1 (29 : Nat) [Value.string (St tt), iv ty, iv 2, iv bk, iv (↑mn : Int), Value.bool bt]]) (fun _ => by kernel_rfl) (@hcl ) (by kernel_rfl) (by kernel_rfl) (by kernel_rfl) fun xx1 xh2 => ?_)
    try dsimp only at xh2
    obtain ⟨xh2_0, xh2_1⟩ := xh2
    refine Xg.acts (Xg.owes_cell 3 rfl (by kernel_rfl) Xg.owes_nil) ?_
    rotate_left
    refine Xg.any_each [2] (by kernel_rfl) rfl ⟨?_, trivial⟩
    refine Xg.comes_act rfl (by kernel_rfl) (by kernel_rfl) (Xg.opx_callE' [2] (fun xx1 => [A, bts xx1.fst n xx1.snd B, ints (5 : TypeId) IntKind.u8 xa1 mn xs1, row xb1 (29 : Nat) [Value.string (St tt), iv ty, iv 2, iv bk, iv (↑mn : Int), Value.bool bt]]) (fun _ => by kernel_rfl) (@hcl ) (by kernel_rfl) (by kernel_rfl) (by kernel_rfl) fun xx1 xh2 => ?_)
    try dsimp only at xh2
    obtain ⟨xh2_0, xh2_1⟩ := xh2
    refine Xg.acts (Xg.owes_cell 3 rfl (by kernel_rfl) Xg.owes_nil) ?_
    refine Xg.any_each [6] (by kernel_rfl) rfl ⟨?_, trivial⟩
    refine Xg.comes_act rfl (by kernel_rfl) (by kernel_rfl) (Xg.opx_callE' [] (fun xx2 => [MR2 xx2 (Rg.mk (0 : Int) (1 : Int) (0 : Int) (0 : Int) (0 : Int)), A, bts xx1.fst n xx1.snd B, ints (5 : TypeId) IntKind.u8 xa1 mn xs1, row xb1 (29 : Nat) [Value.string (St tt), iv ty, iv 2, iv bk, iv (↑mn : Int), Value.bool bt]]) (fun _ => by kernel_rfl) (@Go.Proofs.YthjhkondmobaeaaDoor.made2_d ) (by kernel_rfl) (by kernel_rfl) (by kernel_rfl) fun xx2 xh3 => ?_)
    try dsimp only at xh3
    refine Xg.acts (Xg.owes_skip (by kernel_rfl) Xg.owes_nil) ?_
    refine Xg.any_pure ((Value.agg #[Value.string (St tt), iv ty, iv 2, iv bk, iv (↑mn : Int), Value.bool bt, Value.slice xx1.fst n xx1.snd, Value.slice xa1 xs1.length mn, Value.iface (75 : Nat) (pv xx2 0)])) 7 (by kernel_rfl) rfl (by kernel_rfl) (by kernel_rfl) (by kernel_rfl) (by kernel_rfl) rfl (fun _ => by kernel_rfl) ?_
    refine Xg.any_each [8] (by kernel_rfl) rfl ⟨?_, trivial⟩
    refine Xg.comes_act rfl (by kernel_rfl) (by kernel_rfl) (Xg.opx_box (v := (Value.agg #[Value.string (St tt), iv ty, iv 2, iv bk, iv (↑mn : Int), Value.bool bt, Value.slice xx1.fst n xx1.snd, Value.slice xa1 xs1.length mn, Value.iface (75 : Nat) (pv xx2 0)])) [Value.string (St tt), iv ty, iv 2, iv bk, iv (↑mn : Int), Value.bool bt, Value.slice xx1.fst n xx1.snd, Value.slice xa1 xs1.length mn, Value.iface (75 : Nat) (pv xx2 0)] (by kernel_rfl) (by kernel_rfl) fun xb2 => ?_)
    refine Xg.acts (Xg.owes_skip (by kernel_rfl) Xg.owes_nil) ?_
    refine Xg.any_pure ((pv xb2 0)) 9 (by kernel_rfl) rfl (by kernel_rfl) (by kernel_rfl) (by kernel_rfl) (by kernel_rfl) rfl (fun _ => by kernel_rfl) ?_
    refine Xg.any_pure ((iv 0)) 10 (by kernel_rfl) rfl (by kernel_rfl) (by kernel_rfl) (by kernel_rfl) (by kernel_rfl) rfl (fun _ => by kernel_rfl) ?_
    refine Xg.any_nil (by kernel_rfl) ?_
    rotate_left
    refine Xg.any_each [0, 6] (by kernel_rfl) rfl ⟨?_, ?_, trivial⟩
    refine Xg.comes_act rfl (by kernel_rfl) (by kernel_rfl) (Xg.opx_loadn (off := 0) 6 3 [Value.string (St tt), iv ty, iv 2, iv bk, iv (↑mn : Int), Value.bool bt] (by kernel_rfl) rfl (by kernel_rfl) rfl (Xg.cells_at (by kernel_rfl)) (by kernel_rfl) ?_)
    refine Xg.acts (Xg.owes_cell 3 rfl (by kernel_rfl) Xg.owes_nil) ?_
    rotate_left
    refine Xg.comes_act rfl (by kernel_rfl) (by kernel_rfl) (Xg.opx_callE' [] (fun xx2 => [MR2 xx2 (Rg.mk (0 : Int) (1 : Int) (0 : Int) (0 : Int) (0 : Int)), A, bts xx1.fst n xx1.snd B, ints (5 : TypeId) IntKind.u8 xa1 mn xs1, row xb1 (29 : Nat) [Value.string (St tt), iv ty, iv 2, iv bk, iv (↑mn : Int), Value.bool bt]]) (fun _ => by kernel_rfl) (@Go.Proofs.YthjhkondmobaeaaDoor.made2_d ) (by kernel_rfl) (by kernel_rfl) (by kernel_rfl) fun xx2 xh3 => ?_)
    try dsimp only at xh3
    refine Xg.acts (Xg.owes_skip (by kernel_rfl) Xg.owes_nil) ?_
    rotate_left
    rotate_left
    refine Xg.any_each [6] (by kernel_rfl) rfl ⟨?_, trivial⟩
    refine Xg.comes_act rfl (by kernel_rfl) (by kernel_rfl) (Xg.opx_callE' [] (fun xx2 => [MR2 xx2 (Rg.mk (0 : Int) (1 : Int) (0 : Int) (0 : Int) (0 : Int)), A, bts xx1.fst n xx1.snd B, ints (5 : TypeId) IntKind.u8 xa1 mn xs1, row xb1 (29 : Nat) [Value.string (St tt), iv ty, iv 2, iv bk, iv (↑mn : Int), Value.bool bt]]) (fun _ => by kernel_rfl) (@Go.Proofs.YthjhkondmobaeaaDoor.made2_d ) (by kernel_rfl) (by kernel_rfl) (by kernel_rfl) fun xx2 xh3 => ?_)
    try dsimp only at xh3
    refine Xg.acts (Xg.owes_skip (by kernel_rfl) Xg.owes_nil) ?_
    refine Xg.any_pure ((Value.agg #[Value.string (St tt), iv ty, iv 2, iv bk, iv (↑mn : Int), Value.bool bt, Value.slice xx1.fst n xx1.snd, Value.slice xa1 xs1.length mn, Value.iface (75 : Nat) (pv xx2 0)])) 7 (by kernel_rfl) rfl (by kernel_rfl) (by kernel_rfl) (by kernel_rfl) (by kernel_rfl) rfl (fun _ => by kernel_rfl) ?_
    refine Xg.any_each [8] (by kernel_rfl) rfl ⟨?_, trivial⟩
    refine Xg.comes_act rfl (by kernel_rfl) (by kernel_rfl) (Xg.opx_box (v := (Value.agg #[Value.string (St tt), iv ty, iv 2, iv bk, iv (↑mn : Int), Value.bool bt, Value.slice xx1.fst n xx1.snd, Value.slice xa1 xs1.length mn, Value.iface (75 : Nat) (pv xx2 0)])) [Value.string (St tt), iv ty, iv 2, iv bk, iv (↑mn : Int), Value.bool bt, Value.slice xx1.fst n xx1.snd, Value.slice xa1 xs1.length mn, Value.iface (75 : Nat) (pv xx2 0)] (by kernel_rfl) (by kernel_rfl) fun xb2 => ?_)
    refine Xg.acts (Xg.owes_skip (by kernel_rfl) Xg.owes_nil) ?_
    refine Xg.any_pure ((pv xb2 0)) 9 (by kernel_rfl) rfl (by kernel_rfl) (by kernel_rfl) (by kernel_rfl) (by kernel_rfl) rfl (fun _ => by kernel_rfl) ?_
    refine Xg.any_pure ((iv 0)) 10 (by kernel_rfl) rfl (by kernel_rfl) (by kernel_rfl) (by kernel_rfl) (by kernel_rfl) rfl (fun _ => by kernel_rfl) ?_
    refine Xg.any_nil (by kernel_rfl) ?_
    rotate_left
    refine Xg.any_each [0] (by kernel_rfl) rfl ⟨?_, trivial⟩
    refine Xg.comes_act rfl (by kernel_rfl) (by kernel_rfl) (Xg.opx_loadn (off := 0) 6 4 [Value.string (St tt), iv ty, iv 2, iv bk, iv (↑mn : Int), Value.bool bt] (by kernel_rfl) rfl (by kernel_rfl) rfl (Xg.cells_at (by kernel_rfl)) (by kernel_rfl) ?_)
    refine Xg.acts (Xg.owes_cell 4 rfl (by kernel_rfl) Xg.owes_nil) ?_
    refine Xg.any_pure ((Value.agg #[Value.string (St tt), iv ty, iv 2, iv bk, iv (↑mn : Int), Value.bool bt, Value.slice xx1.fst n xx1.snd, Value.slice xa1 xs1.length mn, Value.iface (75 : Nat) (pv xx2 0)])) 7 (by kernel_rfl) rfl (by kernel_rfl) (by kernel_rfl) (by kernel_rfl) (by kernel_rfl) rfl (fun _ => by kernel_rfl) ?_
    refine Xg.any_each [8] (by kernel_rfl) rfl ⟨?_, trivial⟩
    refine Xg.comes_act rfl (by kernel_rfl) (by kernel_rfl) (Xg.opx_box (v := (Value.agg #[Value.string (St tt), iv ty, iv 2, iv bk, iv (↑mn : Int), Value.bool bt, Value.slice xx1.fst n xx1.snd, Value.slice xa1 xs1.length mn, Value.iface (75 : Nat) (pv xx2 0)])) [Value.string (St tt), iv ty, iv 2, iv bk, iv (↑mn : Int), Value.bool bt, Value.slice xx1.fst n xx1.snd, Value.slice xa1 xs1.length mn, Value.iface (75 : Nat) (pv xx2 0)] (by kernel_rfl) (by kernel_rfl) fun xb2 => ?_)
    refine Xg.acts (Xg.owes_skip (by kernel_rfl) Xg.owes_nil) ?_
    refine Xg.any_pure ((pv xb2 0)) 9 (by kernel_rfl) rfl (by kernel_rfl) (by kernel_rfl) (by kernel_rfl) (by kernel_rfl) rfl (fun _ => by kernel_rfl) ?_
    refine Xg.any_pure ((iv 0)) 10 (by kernel_rfl) rfl (by kernel_rfl) (by kernel_rfl) (by kernel_rfl) (by kernel_rfl) rfl (fun _ => by kernel_rfl) ?_
    refine Xg.any_nil (by kernel_rfl) ?_)
  all_goals (
    have hx := rep_of xl1 xz1
    unfold Xg.ints
    rw [xl1, hx])
  all_goals first
    | (refine Xg.at_ret_ps (v := .tuple #[.pointer (some ⟨xb2, 0, none⟩), .int .i64 0]) [0, 3, 4, 1, 2] _ Tryd.func10 (fun _ => by kernel_rfl) (by kernel_rfl) rfl ⟨(xb2, xx2, xx1.1, xx1.2, xa1), (by show n ≤ xx1.2; first | assumption | omega), rfl, ?_⟩; rfl)
    | (refine Xg.at_ret_ps (v := .tuple #[.pointer (some ⟨xb2, 0, none⟩), .int .i64 0]) [0, 3, 4, 2, 1] _ Tryd.func10 (fun _ => by kernel_rfl) (by kernel_rfl) rfl ⟨(xb2, xx2, xx1.1, xx1.2, xa1), (by show n ≤ xx1.2; first | assumption | omega), rfl, ?_⟩; rfl)
theorem new3_d (A : HP) (a : Option Addr) (n c : Nat) (B : List Int) (h : Hd) (mn : Nat) (hn : B.length = n) (hc : n ≤ c) (hm : n ≤ 100000000) (ha : a.isNone = false) (hB : isB B) (hR : Reads A 1 (.slice a n c) n (B.map (Value.int .u8))) (he : chk B = (h, 0)) (hn0 : 0 < n) (hmp : h.mp = 3) (hrm : h.rm = (mn : Int)) (hmn : mn ≤ 131072) :
    Does Tryd.prog 10 [.slice a n c, .slice none 0 0] [A] (RetE (fun x : Nat × Nat × Option Addr × Nat × Option Addr => n ≤ x.2.2.2.1) (fun x => .tuple #[.pointer (some ⟨x.1, 0, none⟩), .int .i64 0]) (fun x => [CR x.1 h x.2.2.1 n x.2.2.2.1 x.2.2.2.2 mn mn (V3 x.2.1), bts x.2.2.1 n x.2.2.2.1 B, bts x.2.2.2.2 mn mn (List.replicate mn 0), MR3 x.2.1 rg0, A])) := by
  have hck := check_d A a n c B hn hc (by omega) hB hR
  have hcl := clone_d A a n c B hn hn0 hm hc ha hR
  rw [he] at hck
  obtain ⟨tt, ty, mp, bk, rm, bt⟩ := h
  dsimp only at hmp hrm hck
  subst hmp hrm
  unfold hdV at hck
  dsimp only at hck
  (focus
    refine Xg.spec_of Go.Proofs.Tryd.func10 rfl Go.Proofs.Tryd.ntmps10 fun g F => ?_)
  (focus
    refine Xg.at_seq ?_
    refine Xg.at_region ?_
    refine Xg.ops_op (by kernel_rfl) (Xg.opx_pure ((Value.pointer none)) rfl (fun _ => by kernel_rfl) ?_)
    refine Xg.ops_op (by kernel_rfl) (Xg.opx_pure ((iv 0)) rfl (fun _ => by kernel_rfl) ?_)
    refine Xg.ops_nil ?_
    refine Xg.at_seq ?_
    refine Xg.at_region ?_
    refine Xg.ops_op (by kernel_rfl) (Xg.opx_pure ((Value.slice a n c)) rfl (fun _ => by kernel_rfl) ?_)
    refine Xg.ops_op (by kernel_rfl) (Xg.opx_call1' [0] [A] (fun _ => by kernel_rfl) (@hck ) (by kernel_rfl) (by kernel_rfl) (by kernel_rfl) ?_)
    refine Xg.ops_op (by kernel_rfl) (Xg.opx_pure ((Value.tuple #[Value.agg #[Value.string (St tt), iv ty, iv 3, iv bk, iv (↑mn : Int), Value.bool bt], iv 0])) rfl (fun _ => by kernel_rfl) ?_)
    refine Xg.ops_op (by kernel_rfl) (Xg.opx_pure ((Value.agg #[Value.string (St tt), iv ty, iv 3, iv bk, iv (↑mn : Int), Value.bool bt])) rfl (fun _ => by kernel_rfl) ?_)
    refine Xg.ops_op (by kernel_rfl) (Xg.opx_pure ((iv 0)) rfl (fun _ => by kernel_rfl) ?_)
    refine Xg.ops_op (by kernel_rfl) (Xg.opx_new 6 [Value.string (ByteArray.mk #[]), iv 0, iv 0, iv 0, iv 0, Value.bool false] (by kernel_rfl) (by kernel_rfl) fun xb1 => ?_)
    refine Xg.ops_op (by kernel_rfl) (Xg.opx_storen 6 (off := 0) 0 [Value.string (St tt), iv ty, iv 3, iv bk, iv (↑mn : Int), Value.bool bt] (by kernel_rfl) rfl (by kernel_rfl) (by kernel_rfl) rfl (by kernel_rfl) (Nat.le_of_ble_eq_true (by kernel_rfl)) ?_)
    refine Xg.ops_op (by kernel_rfl) (Xg.opx_pure ((iv 0)) rfl (fun _ => by kernel_rfl) ?_)
    refine Xg.ops_nil ?_
    refine Xg.at_seq ?_
    refine Xg.at_seq ?_
    refine Xg.at_region ?_
    refine Xg.ops_op (by kernel_rfl) (Xg.opx_pure ((iv 0)) rfl (fun _ => by kernel_rfl) ?_)
    refine Xg.ops_op (by kernel_rfl) (Xg.opx_pure ((Value.bool false)) rfl (fun _ => by kernel_rfl) ?_)
    refine Xg.ops_nil ?_
    refine Xg.at_false (t := false) (by kernel_rfl) rfl ?_
    refine Xg.at_skip ?_
    refine Xg.at_seq ?_
    refine Xg.at_region ?_
    refine Xg.ops_op (by kernel_rfl) (Xg.opx_pure ((pv xb1 4)) rfl (fun _ => by kernel_rfl) ?_)
    refine Xg.ops_op (by kernel_rfl) (Xg.opx_load (b := xb1) (off := ((4 : Nat))) 0 (iv (↑mn : Int)) rfl (by kernel_rfl) (by kernel_rfl) (by kernel_rfl) ?_)
    refine Xg.ops_op (by kernel_rfl) (Xg.opx_make_hid (elem := 5) (kd := .u8) (by_ := 1) (k1 := .i64) (k2 := .i64) (n := ((↑mn : Int))) (c := ((↑mn : Int))) mn mn (by kernel_rfl) (by kernel_rfl) (by kernel_rfl) (by kernel_rfl) rfl rfl (by omega) (by omega) fun xa1 xs1 xh1 xl1 xz1 => ?_)
    refine Xg.ops_op (by kernel_rfl) (Xg.opx_pure ((Value.slice xa1 xs1.length mn)) rfl (fun _ => by kernel_rfl) ?_)
    refine Xg.ops_nil ?_
    refine Xg.at_seq ?_
    refine Xg.at_seq ?_
    refine Xg.at_region ?_
    refine Xg.ops_op (by kernel_rfl) (Xg.opx_pure ((Value.slice none (0 : Nat) (0 : Nat))) rfl (fun _ => by kernel_rfl) ?_)
    refine Xg.ops_op (by kernel_rfl) (Xg.opx_pure ((iv 0)) rfl (fun _ => by kernel_rfl) ?_)
    refine Xg.ops_op (by kernel_rfl) (Xg.opx_pure ((Value.bool false)) rfl (fun _ => by kernel_rfl) ?_)
    refine Xg.ops_nil ?_
    refine Xg.at_false (t := false) (by kernel_rfl) rfl ?_
    refine Xg.at_skip ?_
    refine Xg.at_seq ?_
    refine Xg.at_draw [0, 2, 6, 8] [(5, [0, 1, 2, 3, 4, 5], Xg.CellIs (xb1) (((2 : Nat))) ((iv 3)))] (by kernel_rfl) ?_
    refine Xg.any_pure ((Value.slice a n c)) 1 (by kernel_rfl) rfl (by kernel_rfl) (by kernel_rfl) (by kernel_rfl) (by kernel_rfl) rfl (fun _ => by kernel_rfl) ?_
    refine Xg.any_pure ((Value.slice xa1 xs1.length mn)) 3 (by kernel_rfl) rfl (by kernel_rfl) (by kernel_rfl) (by kernel_rfl) (by kernel_rfl) rfl (fun _ => by kernel_rfl) ?_
    refine Xg.any_pure ((pv xb1 2)) 4 (by kernel_rfl) rfl (by kernel_rfl) (by kernel_rfl) (by kernel_rfl) (by kernel_rfl) rfl (fun _ => by kernel_rfl) ?_
    refine Xg.any_reads (iv 3) 5 0 (by kernel_rfl) rfl (by kernel_rfl) (by kernel_rfl) (by kernel_rfl) (by kernel_rfl) rfl rfl (by kernel_rfl) (Xg.cell_now (b := xb1) (off := ((2 : Nat))) 1 rfl (by kernel_rfl)) (fun _ h => Xg.run_load (by kernel_rfl) (by kernel_rfl) h) ?_
    refine Xg.any_each [0, 2] (by kernel_rfl) rfl ⟨?_, ?_, trivial⟩
    refine Xg.comes_act rfl (by kernel_rfl) (by kernel_rfl) (Xg.opx_loadn (off := 0) 6 1 [Value.string (St tt), iv ty, iv 3, iv bk, iv (↑mn : Int), Value.bool bt] (by kernel_rfl) rfl (by kernel_rfl) rfl (Xg.cells_at (by kernel_rfl)) (by kernel_rfl) ?_)
    refine Xg.acts (Xg.owes_cell 1 rfl (by kernel_rfl) Xg.owes_nil) ?_
    rotate_left
    refine Xg.comes_act rfl (by kernel_rfl) (by kernel_rfl) (Xg.opx_callE' [2] (fun xx1 => [A, bts xx1.fst n xx1.snd B, ints (5 : TypeId) IntKind.u8 xa1 mn xs1, row xb1 (29 : Nat) [Value.string (St tt), iv ty, iv 3, iv bk, iv (↑mn : Int), Value.bool bt]]) (fun _ => by kernel_rfl) (@hcl ) (by kernel_rfl) (by kernel_rfl) (by kernel_rfl) fun xx1 xh2 => ?_)
    try dsimp only at xh2
    obtain ⟨xh2_0, xh2_1⟩ := xh2
    refine Xg.acts (Xg.owes_cell 3 rfl (by kernel_rfl) Xg.owes_nil) ?_
    rotate_left
    refine Xg.any_each [2] (by kernel_rfl) rfl ⟨?_, trivial⟩
    refine Xg.comes_act rfl (by kernel_rfl) (by kernel_rfl) (Xg.opx_callE' [2] (fun xx1 => [A, bts xx1.fst n xx1.snd B, ints (5 : TypeId) IntKind.u8 xa1 mn xs1, row xb1 (29 : Nat) [Value.string (St tt), iv ty, iv 3, iv bk, iv (↑mn : Int), Value.bool bt]]) (fun _ => by kernel_rfl) (@hcl ) (by kernel_rfl) (by kernel_rfl) (by kernel_rfl) fun xx1 xh2 => ?_)
    try dsimp only at xh2
    obtain ⟨xh2_0, xh2_1⟩ := xh2
    refine Xg.acts (Xg.owes_cell 3 rfl (by kernel_rfl) Xg.owes_nil) ?_
    refine Xg.any_each [6] (by kernel_rfl) rfl ⟨?_, trivial⟩
    refine Xg.comes_act rfl (by kernel_rfl) (by kernel_rfl) (Xg.opx_callE' [] (fun xx2 => [MR3 xx2 (Rg.mk (0 : Int) (1 : Int) (0 : Int) (0 : Int) (0 : Int)), A, bts xx1.fst n xx1.snd B, ints (5 : TypeId) IntKind.u8 xa1 mn xs1, row xb1 (29 : Nat) [Value.string (St tt), iv ty, iv 3, iv bk, iv (↑mn : Int), Value.bool bt]]) (fun _ => by kernel_rfl) (@Go.Proofs.YthjhkondmobaeaaDoor.made3_d ) (by kernel_rfl) (by kernel_rfl) (by kernel_rfl) fun xx2 xh3 => ?_)
    try dsimp only at xh3
    refine Xg.acts (Xg.owes_skip (by kernel_rfl) Xg.owes_nil) ?_
    refine Xg.any_pure ((Value.agg #[Value.string (St tt), iv ty, iv 3, iv bk, iv (↑mn : Int), Value.bool bt, Value.slice xx1.fst n xx1.snd, Value.slice xa1 xs1.length mn, Value.iface (78 : Nat) (pv xx2 0)])) 7 (by kernel_rfl) rfl (by kernel_rfl) (by kernel_rfl) (by kernel_rfl) (by kernel_rfl) rfl (fun _ => by kernel_rfl) ?_
    refine Xg.any_each [8] (by kernel_rfl) rfl ⟨?_, trivial⟩
    refine Xg.comes_act rfl (by kernel_rfl) (by kernel_rfl) (Xg.opx_box (v := (Value.agg #[Value.string (St tt), iv ty, iv 3, iv bk, iv (↑mn : Int), Value.bool bt, Value.slice xx1.fst n xx1.snd, Value.slice xa1 xs1.length mn, Value.iface (78 : Nat) (pv xx2 0)])) [Value.string (St tt), iv ty, iv 3, iv bk, iv (↑mn : Int), Value.bool bt, Value.slice xx1.fst n xx1.snd, Value.slice xa1 xs1.length mn, Value.iface (78 : Nat) (pv xx2 0)] (by kernel_rfl) (by kernel_rfl) fun xb2 => ?_)
    refine Xg.acts (Xg.owes_skip (by kernel_rfl) Xg.owes_nil) ?_
    refine Xg.any_pure ((pv xb2 0)) 9 (by kernel_rfl) rfl (by kernel_rfl) (by kernel_rfl) (by kernel_rfl) (by kernel_rfl) rfl (fun _ => by kernel_rfl) ?_
    refine Xg.any_pure ((iv 0)) 10 (by kernel_rfl) rfl (by kernel_rfl) (by kernel_rfl) (by kernel_rfl) (by kernel_rfl) rfl (fun _ => by kernel_rfl) ?_
    refine Xg.any_nil (by kernel_rfl) ?_
    rotate_left
    refine Xg.any_each [0, 6] (by kernel_rfl) rfl ⟨?_, ?_, trivial⟩
    refine Xg.comes_act rfl (by kernel_rfl) (by kernel_rfl) (Xg.opx_loadn (off := 0) 6 3 [Value.string (St tt), iv ty, iv 3, iv bk, iv (↑mn : Int), Value.bool bt] (by kernel_rfl) rfl (by kernel_rfl) rfl (Xg.cells_at (by kernel_rfl)) (by kernel_rfl) ?_)
    refine Xg.acts (Xg.owes_cell 3 rfl (by kernel_rfl) Xg.owes_nil) ?_
    rotate_left
    refine Xg.comes_act rfl (by kernel_rfl) (by kernel_rfl) (Xg.opx_callE' [] (fun xx2 => [MR3 xx2 (Rg.mk (0 : Int) (1 : Int) (0 : Int) (0 : Int) (0 : Int)), A, bts xx1.fst n xx1.snd B, ints (5 : TypeId) IntKind.u8 xa1 mn xs1, row xb1 (29 : Nat) [Value.string (St tt), iv ty, iv 3, iv bk, iv (↑mn : Int), Value.bool bt]]) (fun _ => by kernel_rfl) (@Go.Proofs.YthjhkondmobaeaaDoor.made3_d ) (by kernel_rfl) (by kernel_rfl) (by kernel_rfl) fun xx2 xh3 => ?_)
    try dsimp only at xh3
    refine Xg.acts (Xg.owes_skip (by kernel_rfl) Xg.owes_nil) ?_
    rotate_left
    rotate_left
    refine Xg.any_each [6] (by kernel_rfl) rfl ⟨?_, trivial⟩
    refine Xg.comes_act rfl (by kernel_rfl) (by kernel_rfl) (Xg.opx_callE' [] (fun xx2 => [MR3 xx2 (Rg.mk (0 : Int) (1 : Int) (0 : Int) (0 : Int) (0 : Int)), A, bts xx1.fst n xx1.snd B, ints (5 : TypeId) IntKind.u8 xa1 mn xs1, row xb1 (29 : Nat) [Value.string (St tt), iv ty, iv 3, iv bk, iv (↑mn : Int), Value.bool bt]]) (fun _ => by kernel_rfl) (@Go.Proofs.YthjhkondmobaeaaDoor.made3_d ) (by kernel_rfl) (by kernel_rfl) (by kernel_rfl) fun xx2 xh3 => ?_)
    try dsimp only at xh3
    refine Xg.acts (Xg.owes_skip (by kernel_rfl) Xg.owes_nil) ?_
    refine Xg.any_pure ((Value.agg #[Value.string (St tt), iv ty, iv 3, iv bk, iv (↑mn : Int), Value.bool bt, Value.slice xx1.fst n xx1.snd, Value.slice xa1 xs1.length mn, Value.iface (78 : Nat) (pv xx2 0)])) 7 (by kernel_rfl) rfl (by kernel_rfl) (by kernel_rfl) (by kernel_rfl) (by kernel_rfl) rfl (fun _ => by kernel_rfl) ?_
    refine Xg.any_each [8] (by kernel_rfl) rfl ⟨?_, trivial⟩
    refine Xg.comes_act rfl (by kernel_rfl) (by kernel_rfl) (Xg.opx_box (v := (Value.agg #[Value.string (St tt), iv ty, iv 3, iv bk, iv (↑mn : Int), Value.bool bt, Value.slice xx1.fst n xx1.snd, Value.slice xa1 xs1.length mn, Value.iface (78 : Nat) (pv xx2 0)])) [Value.string (St tt), iv ty, iv 3, iv bk, iv (↑mn : Int), Value.bool bt, Value.slice xx1.fst n xx1.snd, Value.slice xa1 xs1.length mn, Value.iface (78 : Nat) (pv xx2 0)] (by kernel_rfl) (by kernel_rfl) fun xb2 => ?_)
    refine Xg.acts (Xg.owes_skip (by kernel_rfl) Xg.owes_nil) ?_
    refine Xg.any_pure ((pv xb2 0)) 9 (by kernel_rfl) rfl (by kernel_rfl) (by kernel_rfl) (by kernel_rfl) (by kernel_rfl) rfl (fun _ => by kernel_rfl) ?_
    refine Xg.any_pure ((iv 0)) 10 (by kernel_rfl) rfl (by kernel_rfl) (by kernel_rfl) (by kernel_rfl) (by kernel_rfl) rfl (fun _ => by kernel_rfl) ?_
    refine Xg.any_nil (by kernel_rfl) ?_
    rotate_left
    refine Xg.any_each [0] (by kernel_rfl) rfl ⟨?_, trivial⟩
    refine Xg.comes_act rfl (by kernel_rfl) (by kernel_rfl) (Xg.opx_loadn (off := 0) 6 4 [Value.string (St tt), iv ty, iv 3, iv bk, iv (↑mn : Int), Value.bool bt] (by kernel_rfl) rfl (by kernel_rfl) rfl (Xg.cells_at (by kernel_rfl)) (by kernel_rfl) ?_)
    refine Xg.acts (Xg.owes_cell 4 rfl (by kernel_rfl) Xg.owes_nil) ?_
    refine Xg.any_pure ((Value.agg #[Value.string (St tt), iv ty, iv 3, iv bk, iv (↑mn : Int), Value.bool bt, Value.slice xx1.fst n xx1.snd, Value.slice xa1 xs1.length mn, Value.iface (78 : Nat) (pv xx2 0)])) 7 (by kernel_rfl) rfl (by kernel_rfl) (by kernel_rfl) (by kernel_rfl) (by kernel_rfl) rfl (fun _ => by kernel_rfl) ?_
    refine Xg.any_each [8] (by kernel_rfl) rfl ⟨?_, trivial⟩
    refine Xg.comes_act rfl (by kernel_rfl) (by kernel_rfl) (Xg.opx_box (v := (Value.agg #[Value.string (St tt), iv ty, iv 3, iv bk, iv (↑mn : Int), Value.bool bt, Value.slice xx1.fst n xx1.snd, Value.slice xa1 xs1.length mn, Value.iface (78 : Nat) (pv xx2 0)])) [Value.string (St tt), iv ty, iv 3, iv bk, iv (↑mn : Int), Value.bool bt, Value.slice xx1.fst n xx1.snd, Value.slice xa1 xs1.length mn, Value.iface (78 : Nat) (pv xx2 0)] (by kernel_rfl) (by kernel_rfl) fun xb2 => ?_)
    refine Xg.acts (Xg.owes_skip (by kernel_rfl) Xg.owes_nil) ?_
    refine Xg.any_pure ((pv xb2 0)) 9 (by kernel_rfl) rfl (by kernel_rfl) (by kernel_rfl) (by kernel_rfl) (by kernel_rfl) rfl (fun _ => by kernel_rfl) ?_
    refine Xg.any_pure ((iv 0)) 10 (by kernel_rfl) rfl (by kernel_rfl) (by kernel_rfl) (by kernel_rfl) (by kernel_rfl) rfl (fun _ => by kernel_rfl) ?_
    refine Xg.any_nil (by kernel_rfl) ?_)
  all_goals (
    have hx := rep_of xl1 xz1
    unfold Xg.ints
    rw [xl1, hx])
  all_goals first
    | (refine Xg.at_ret_ps (v := .tuple #[.pointer (some ⟨xb2, 0, none⟩), .int .i64 0]) [0, 3, 4, 1, 2] _ Tryd.func10 (fun _ => by kernel_rfl) (by kernel_rfl) rfl ⟨(xb2, xx2, xx1.1, xx1.2, xa1), (by show n ≤ xx1.2; first | assumption | omega), rfl, ?_⟩; rfl)
    | (refine Xg.at_ret_ps (v := .tuple #[.pointer (some ⟨xb2, 0, none⟩), .int .i64 0]) [0, 3, 4, 2, 1] _ Tryd.func10 (fun _ => by kernel_rfl) (by kernel_rfl) rfl ⟨(xb2, xx2, xx1.1, xx1.2, xa1), (by show n ≤ xx1.2; first | assumption | omega), rfl, ?_⟩; rfl)
theorem new5_d (A : HP) (a : Option Addr) (n c : Nat) (B : List Int) (h : Hd) (mn : Nat) (hn : B.length = n) (hc : n ≤ c) (hm : n ≤ 100000000) (ha : a.isNone = false) (hB : isB B) (hR : Reads A 1 (.slice a n c) n (B.map (Value.int .u8))) (he : chk B = (h, 0)) (hn0 : 0 < n) (hmp : h.mp = 5) (hrm : h.rm = (mn : Int)) (hmn : mn ≤ 131072) :
    Does Tryd.prog 10 [.slice a n c, .slice none 0 0] [A] (RetE (fun x : Nat × Nat × Option Addr × Nat × Option Addr => n ≤ x.2.2.2.1) (fun x => .tuple #[.pointer (some ⟨x.1, 0, none⟩), .int .i64 0]) (fun x => [CR x.1 h x.2.2.1 n x.2.2.2.1 x.2.2.2.2 mn mn (V5 x.2.1), bts x.2.2.1 n x.2.2.2.1 B, bts x.2.2.2.2 mn mn (List.replicate mn 0), MR5 x.2.1 rg0, A])) := by
  have hck := check_d A a n c B hn hc (by omega) hB hR
  have hcl := clone_d A a n c B hn hn0 hm hc ha hR
  rw [he] at hck
  obtain ⟨tt, ty, mp, bk, rm, bt⟩ := h
  dsimp only at hmp hrm hck
  subst hmp hrm
  unfold hdV at hck
  dsimp only at hck
  (focus
    refine Xg.spec_of Go.Proofs.Tryd.func10 rfl Go.Proofs.Tryd.ntmps10 fun g F => ?_)
  (focus
    refine Xg.at_seq ?_
    refine Xg.at_region ?_
    refine Xg.ops_op (by kernel_rfl) (Xg.opx_pure ((Value.pointer none)) rfl (fun _ => by kernel_rfl) ?_)
    refine Xg.ops_op (by kernel_rfl) (Xg.opx_pure ((iv 0)) rfl (fun _ => by kernel_rfl) ?_)
    refine Xg.ops_nil ?_
    refine Xg.at_seq ?_
    refine Xg.at_region ?_
    refine Xg.ops_op (by kernel_rfl) (Xg.opx_pure ((Value.slice a n c)) rfl (fun _ => by kernel_rfl) ?_)
    refine Xg.ops_op (by kernel_rfl) (Xg.opx_call1' [0] [A] (fun _ => by kernel_rfl) (@hck ) (by kernel_rfl) (by kernel_rfl) (by kernel_rfl) ?_)
    refine Xg.ops_op (by kernel_rfl) (Xg.opx_pure ((Value.tuple #[Value.agg #[Value.string (St tt), iv ty, iv 5, iv bk, iv (↑mn : Int), Value.bool bt], iv 0])) rfl (fun _ => by kernel_rfl) ?_)
    refine Xg.ops_op (by kernel_rfl) (Xg.opx_pure ((Value.agg #[Value.string (St tt), iv ty, iv 5, iv bk, iv (↑mn : Int), Value.bool bt])) rfl (fun _ => by kernel_rfl) ?_)
    refine Xg.ops_op (by kernel_rfl) (Xg.opx_pure ((iv 0)) rfl (fun _ => by kernel_rfl) ?_)
    refine Xg.ops_op (by kernel_rfl) (Xg.opx_new 6 [Value.string (ByteArray.mk #[]), iv 0, iv 0, iv 0, iv 0, Value.bool false] (by kernel_rfl) (by kernel_rfl) fun xb1 => ?_)
    refine Xg.ops_op (by kernel_rfl) (Xg.opx_storen 6 (off := 0) 0 [Value.string (St tt), iv ty, iv 5, iv bk, iv (↑mn : Int), Value.bool bt] (by kernel_rfl) rfl (by kernel_rfl) (by kernel_rfl) rfl (by kernel_rfl) (Nat.le_of_ble_eq_true (by kernel_rfl)) ?_)
    refine Xg.ops_op (by kernel_rfl) (Xg.opx_pure ((iv 0)) rfl (fun _ => by kernel_rfl) ?_)
    refine Xg.ops_nil ?_
    refine Xg.at_seq ?_
    refine Xg.at_seq ?_
    refine Xg.at_region ?_
    refine Xg.ops_op (by kernel_rfl) (Xg.opx_pure ((iv 0)) rfl (fun _ => by kernel_rfl) ?_)
    refine Xg.ops_op (by kernel_rfl) (Xg.opx_pure ((Value.bool false)) rfl (fun _ => by kernel_rfl) ?_)
    refine Xg.ops_nil ?_
    refine Xg.at_false (t := false) (by kernel_rfl) rfl ?_
    refine Xg.at_skip ?_
    refine Xg.at_seq ?_
    refine Xg.at_region ?_
    refine Xg.ops_op (by kernel_rfl) (Xg.opx_pure ((pv xb1 4)) rfl (fun _ => by kernel_rfl) ?_)
    refine Xg.ops_op (by kernel_rfl) (Xg.opx_load (b := xb1) (off := ((4 : Nat))) 0 (iv (↑mn : Int)) rfl (by kernel_rfl) (by kernel_rfl) (by kernel_rfl) ?_)
    refine Xg.ops_op (by kernel_rfl) (Xg.opx_make_hid (elem := 5) (kd := .u8) (by_ := 1) (k1 := .i64) (k2 := .i64) (n := ((↑mn : Int))) (c := ((↑mn : Int))) mn mn (by kernel_rfl) (by kernel_rfl) (by kernel_rfl) (by kernel_rfl) rfl rfl (by omega) (by omega) fun xa1 xs1 xh1 xl1 xz1 => ?_)
    refine Xg.ops_op (by kernel_rfl) (Xg.opx_pure ((Value.slice xa1 xs1.length mn)) rfl (fun _ => by kernel_rfl) ?_)
    refine Xg.ops_nil ?_
    refine Xg.at_seq ?_
    refine Xg.at_seq ?_
    refine Xg.at_region ?_
    refine Xg.ops_op (by kernel_rfl) (Xg.opx_pure ((Value.slice none (0 : Nat) (0 : Nat))) rfl (fun _ => by kernel_rfl) ?_)
    refine Xg.ops_op (by kernel_rfl) (Xg.opx_pure ((iv 0)) rfl (fun _ => by kernel_rfl) ?_)
    refine Xg.ops_op (by kernel_rfl) (Xg.opx_pure ((Value.bool false)) rfl (fun _ => by kernel_rfl) ?_)
    refine Xg.ops_nil ?_
    refine Xg.at_false (t := false) (by kernel_rfl) rfl ?_
    refine Xg.at_skip ?_
    refine Xg.at_seq ?_
    refine Xg.at_draw [0, 2, 6, 8] [(5, [0, 1, 2, 3, 4, 5], Xg.CellIs (xb1) (((2 : Nat))) ((iv 5)))] (by kernel_rfl) ?_
    refine Xg.any_pure ((Value.slice a n c)) 1 (by kernel_rfl) rfl (by kernel_rfl) (by kernel_rfl) (by kernel_rfl) (by kernel_rfl) rfl (fun _ => by kernel_rfl) ?_
    refine Xg.any_pure ((Value.slice xa1 xs1.length mn)) 3 (by kernel_rfl) rfl (by kernel_rfl) (by kernel_rfl) (by kernel_rfl) (by kernel_rfl) rfl (fun _ => by kernel_rfl) ?_
    refine Xg.any_pure ((pv xb1 2)) 4 (by kernel_rfl) rfl (by kernel_rfl) (by kernel_rfl) (by kernel_rfl) (by kernel_rfl) rfl (fun _ => by kernel_rfl) ?_
    refine Xg.any_reads (iv 5) 5 0 (by kernel_rfl) rfl (by kernel_rfl) (by kernel_rfl) (by kernel_rfl) (by kernel_rfl) rfl rfl (by kernel_rfl) (Xg.cell_now (b := xb1) (off := ((2 : Nat))) 1 rfl (by kernel_rfl)) (fun _ h => Xg.run_load (by kernel_rfl) (by kernel_rfl) h) ?_
    refine Xg.any_each [0, 2] (by kernel_rfl) rfl ⟨?_, ?_, trivial⟩
    refine Xg.comes_act rfl (by kernel_rfl) (by kernel_rfl) (Xg.opx_loadn (off := 0) 6 1 [Value.string (St tt), iv ty, iv 5, iv bk, iv (↑mn : Int), Value.bool bt] (by kernel_rfl) rfl (by kernel_rfl) rfl (Xg.cells_at (by kernel_rfl)) (by kernel_rfl) ?_)
    refine Xg.acts (Xg.owes_cell 1 rfl (by kernel_rfl) Xg.owes_nil) ?_
    rotate_left
    refine Xg.comes_act rfl (by kernel_rfl) (by kernel_rfl) (Xg.opx_callE' [2] (fun xx1 => [A, bts xx1.fst n xx1.snd B, ints (5 : TypeId) IntKind.u8 xa1 mn xs1, row xb1 (29 : Nat) [Value.string (St tt), iv ty, iv 5, iv bk, iv (↑mn : Int), Value.bool bt]]) (fun _ => by kernel_rfl) (@hcl ) (by kernel_rfl) (by kernel_rfl) (by kernel_rfl) fun xx1 xh2 => ?_)
    try dsimp only at xh2
    obtain ⟨xh2_0, xh2_1⟩ := xh2
    refine Xg.acts (Xg.owes_cell 3 rfl (by kernel_rfl) Xg.owes_nil) ?_
    rotate_left
    refine Xg.any_each [2] (by kernel_rfl) rfl ⟨?_, trivial⟩
    refine Xg.comes_act rfl (by kernel_rfl) (by kernel_rfl) (Xg.opx_callE' [2] (fun xx1 => [A, bts xx1.fst n xx1.snd B, ints (5 : TypeId) IntKind.u8 xa1 mn xs1, row xb1 (29 : Nat) [Value.string (St tt), iv ty, iv 5, iv bk, iv (↑mn : Int), Value.bool bt]]) (fun _ => by kernel_rfl) (@hcl ) (by kernel_rfl) (by kernel_rfl) (by kernel_rfl) fun xx1 xh2 => ?_)
    try dsimp only at xh2
    obtain ⟨xh2_0, xh2_1⟩ := xh2
    refine Xg.acts (Xg.owes_cell 3 rfl (by kernel_rfl) Xg.owes_nil) ?_
    refine Xg.any_each [6] (by kernel_rfl) rfl ⟨?_, trivial⟩
    refine Xg.comes_act rfl (by kernel_rfl) (by kernel_rfl) (Xg.opx_callE' [] (fun xx2 => [MR5 xx2 (Rg.mk (0 : Int) (1 : Int) (0 : Int) (0 : Int) (0 : Int)), A, bts xx1.fst n xx1.snd B, ints (5 : TypeId) IntKind.u8 xa1 mn xs1, row xb1 (29 : Nat) [Value.string (St tt), iv ty, iv 5, iv bk, iv (↑mn : Int), Value.bool bt]]) (fun _ => by kernel_rfl) (@Go.Proofs.YthjhkondmobaeaaDoor.made5_d ) (by kernel_rfl) (by kernel_rfl) (by kernel_rfl) fun xx2 xh3 => ?_)
    try dsimp only at xh3
    refine Xg.acts (Xg.owes_skip (by kernel_rfl) Xg.owes_nil) ?_
    refine Xg.any_pure ((Value.agg #[Value.string (St tt), iv ty, iv 5, iv bk, iv (↑mn : Int), Value.bool bt, Value.slice xx1.fst n xx1.snd, Value.slice xa1 xs1.length mn, Value.iface (80 : Nat) (pv xx2 0)])) 7 (by kernel_rfl) rfl (by kernel_rfl) (by kernel_rfl) (by kernel_rfl) (by kernel_rfl) rfl (fun _ => by kernel_rfl) ?_
    refine Xg.any_each [8] (by kernel_rfl) rfl ⟨?_, trivial⟩
    refine Xg.comes_act rfl (by kernel_rfl) (by kernel_rfl) (Xg.opx_box (v := (Value.agg #[Value.string (St tt), iv ty, iv 5, iv bk, iv (↑mn : Int), Value.bool bt, Value.slice xx1.fst n xx1.snd, Value.slice xa1 xs1.length mn, Value.iface (80 : Nat) (pv xx2 0)])) [Value.string (St tt), iv ty, iv 5, iv bk, iv (↑mn : Int), Value.bool bt, Value.slice xx1.fst n xx1.snd, Value.slice xa1 xs1.length mn, Value.iface (80 : Nat) (pv xx2 0)] (by kernel_rfl) (by kernel_rfl) fun xb2 => ?_)
    refine Xg.acts (Xg.owes_skip (by kernel_rfl) Xg.owes_nil) ?_
    refine Xg.any_pure ((pv xb2 0)) 9 (by kernel_rfl) rfl (by kernel_rfl) (by kernel_rfl) (by kernel_rfl) (by kernel_rfl) rfl (fun _ => by kernel_rfl) ?_
    refine Xg.any_pure ((iv 0)) 10 (by kernel_rfl) rfl (by kernel_rfl) (by kernel_rfl) (by kernel_rfl) (by kernel_rfl) rfl (fun _ => by kernel_rfl) ?_
    refine Xg.any_nil (by kernel_rfl) ?_
    rotate_left
    refine Xg.any_each [0, 6] (by kernel_rfl) rfl ⟨?_, ?_, trivial⟩
    refine Xg.comes_act rfl (by kernel_rfl) (by kernel_rfl) (Xg.opx_loadn (off := 0) 6 3 [Value.string (St tt), iv ty, iv 5, iv bk, iv (↑mn : Int), Value.bool bt] (by kernel_rfl) rfl (by kernel_rfl) rfl (Xg.cells_at (by kernel_rfl)) (by kernel_rfl) ?_)
    refine Xg.acts (Xg.owes_cell 3 rfl (by kernel_rfl) Xg.owes_nil) ?_
    rotate_left
    refine Xg.comes_act rfl (by kernel_rfl) (by kernel_rfl) (Xg.opx_callE' [] (fun xx2 => [MR5 xx2 (Rg.mk (0 : Int) (1 : Int) (0 : Int) (0 : Int) (0 : Int)), A, bts xx1.fst n xx1.snd B, ints (5 : TypeId) IntKind.u8 xa1 mn xs1, row xb1 (29 : Nat) [Value.string (St tt), iv ty, iv 5, iv bk, iv (↑mn : Int), Value.bool bt]]) (fun _ => by kernel_rfl) (@Go.Proofs.YthjhkondmobaeaaDoor.made5_d ) (by kernel_rfl) (by kernel_rfl) (by kernel_rfl) fun xx2 xh3 => ?_)
    try dsimp only at xh3
    refine Xg.acts (Xg.owes_skip (by kernel_rfl) Xg.owes_nil) ?_
    rotate_left
    rotate_left
    refine Xg.any_each [6] (by kernel_rfl) rfl ⟨?_, trivial⟩
    refine Xg.comes_act rfl (by kernel_rfl) (by kernel_rfl) (Xg.opx_callE' [] (fun xx2 => [MR5 xx2 (Rg.mk (0 : Int) (1 : Int) (0 : Int) (0 : Int) (0 : Int)), A, bts xx1.fst n xx1.snd B, ints (5 : TypeId) IntKind.u8 xa1 mn xs1, row xb1 (29 : Nat) [Value.string (St tt), iv ty, iv 5, iv bk, iv (↑mn : Int), Value.bool bt]]) (fun _ => by kernel_rfl) (@Go.Proofs.YthjhkondmobaeaaDoor.made5_d ) (by kernel_rfl) (by kernel_rfl) (by kernel_rfl) fun xx2 xh3 => ?_)
    try dsimp only at xh3
    refine Xg.acts (Xg.owes_skip (by kernel_rfl) Xg.owes_nil) ?_
    refine Xg.any_pure ((Value.agg #[Value.string (St tt), iv ty, iv 5, iv bk, iv (↑mn : Int), Value.bool bt, Value.slice xx1.fst n xx1.snd, Value.slice xa1 xs1.length mn, Value.iface (80 : Nat) (pv xx2 0)])) 7 (by kernel_rfl) rfl (by kernel_rfl) (by kernel_rfl) (by kernel_rfl) (by kernel_rfl) rfl (fun _ => by kernel_rfl) ?_
    refine Xg.any_each [8] (by kernel_rfl) rfl ⟨?_, trivial⟩
    refine Xg.comes_act rfl (by kernel_rfl) (by kernel_rfl) (Xg.opx_box (v := (Value.agg #[Value.string (St tt), iv ty, iv 5, iv bk, iv (↑mn : Int), Value.bool bt, Value.slice xx1.fst n xx1.snd, Value.slice xa1 xs1.length mn, Value.iface (80 : Nat) (pv xx2 0)])) [Value.string (St tt), iv ty, iv 5, iv bk, iv (↑mn : Int), Value.bool bt, Value.slice xx1.fst n xx1.snd, Value.slice xa1 xs1.length mn, Value.iface (80 : Nat) (pv xx2 0)] (by kernel_rfl) (by kernel_rfl) fun xb2 => ?_)
    refine Xg.acts (Xg.owes_skip (by kernel_rfl) Xg.owes_nil) ?_
    refine Xg.any_pure ((pv xb2 0)) 9 (by kernel_rfl) rfl (by kernel_rfl) (by kernel_rfl) (by kernel_rfl) (by kernel_rfl) rfl (fun _ => by kernel_rfl) ?_
    refine Xg.any_pure ((iv 0)) 10 (by kernel_rfl) rfl (by kernel_rfl) (by kernel_rfl) (by kernel_rfl) (by kernel_rfl) rfl (fun _ => by kernel_rfl) ?_
    refine Xg.any_nil (by kernel_rfl) ?_
    rotate_left
    refine Xg.any_each [0] (by kernel_rfl) rfl ⟨?_, trivial⟩
    refine Xg.comes_act rfl (by kernel_rfl) (by kernel_rfl) (Xg.opx_loadn (off := 0) 6 4 [Value.string (St tt), iv ty, iv 5, iv bk, iv (↑mn : Int), Value.bool bt] (by kernel_rfl) rfl (by kernel_rfl) rfl (Xg.cells_at (by kernel_rfl)) (by kernel_rfl) ?_)
    refine Xg.acts (Xg.owes_cell 4 rfl (by kernel_rfl) Xg.owes_nil) ?_
    refine Xg.any_pure ((Value.agg #[Value.string (St tt), iv ty, iv 5, iv bk, iv (↑mn : Int), Value.bool bt, Value.slice xx1.fst n xx1.snd, Value.slice xa1 xs1.length mn, Value.iface (80 : Nat) (pv xx2 0)])) 7 (by kernel_rfl) rfl (by kernel_rfl) (by kernel_rfl) (by kernel_rfl) (by kernel_rfl) rfl (fun _ => by kernel_rfl) ?_
    refine Xg.any_each [8] (by kernel_rfl) rfl ⟨?_, trivial⟩
    refine Xg.comes_act rfl (by kernel_rfl) (by kernel_rfl) (Xg.opx_box (v := (Value.agg #[Value.string (St tt), iv ty, iv 5, iv bk, iv (↑mn : Int), Value.bool bt, Value.slice xx1.fst n xx1.snd, Value.slice xa1 xs1.length mn, Value.iface (80 : Nat) (pv xx2 0)])) [Value.string (St tt), iv ty, iv 5, iv bk, iv (↑mn : Int), Value.bool bt, Value.slice xx1.fst n xx1.snd, Value.slice xa1 xs1.length mn, Value.iface (80 : Nat) (pv xx2 0)] (by kernel_rfl) (by kernel_rfl) fun xb2 => ?_)
    refine Xg.acts (Xg.owes_skip (by kernel_rfl) Xg.owes_nil) ?_
    refine Xg.any_pure ((pv xb2 0)) 9 (by kernel_rfl) rfl (by kernel_rfl) (by kernel_rfl) (by kernel_rfl) (by kernel_rfl) rfl (fun _ => by kernel_rfl) ?_
    refine Xg.any_pure ((iv 0)) 10 (by kernel_rfl) rfl (by kernel_rfl) (by kernel_rfl) (by kernel_rfl) (by kernel_rfl) rfl (fun _ => by kernel_rfl) ?_
    refine Xg.any_nil (by kernel_rfl) ?_)
  all_goals (
    have hx := rep_of xl1 xz1
    unfold Xg.ints
    rw [xl1, hx])
  all_goals first
    | (refine Xg.at_ret_ps (v := .tuple #[.pointer (some ⟨xb2, 0, none⟩), .int .i64 0]) [0, 3, 4, 1, 2] _ Tryd.func10 (fun _ => by kernel_rfl) (by kernel_rfl) rfl ⟨(xb2, xx2, xx1.1, xx1.2, xa1), (by show n ≤ xx1.2; first | assumption | omega), rfl, ?_⟩; rfl)
    | (refine Xg.at_ret_ps (v := .tuple #[.pointer (some ⟨xb2, 0, none⟩), .int .i64 0]) [0, 3, 4, 2, 1] _ Tryd.func10 (fun _ => by kernel_rfl) (by kernel_rfl) rfl ⟨(xb2, xx2, xx1.1, xx1.2, xa1), (by show n ≤ xx1.2; first | assumption | omega), rfl, ?_⟩; rfl)
end Go.Proofs.YthjhkondmobaeaaDoor

/- cart, plain: what Check says of a box's ROM. -/
namespace Go.Proofs.YthjhkondmobaeaaDoor
open Go.Sl Go.Xg
set_option linter.unusedVariables false
set_option linter.unusedSimpArgs false

/-- A box's ROM, with nothing laid over it. -/
structure BoxR (t rc rr sd : Int) (n : Nat) (R : List Int) : Prop where
  l : R.length = n
  b : isB R
  s : (231 - hsum R 25) % 256 = R.getD 333 0
  f : ∀ k, k ≠ 333 → 260 ≤ k → k < 336 → R.getD k 0 = romP t rc rr sd k
/-- Its header. -/
def hdX (t rc rr sd : Int) (k : Kd) : Hd := ⟨[65 + pickI sd 26, 98], t, k.mp, bnk rc, if k.mp = 2 then 512 else rmC rr, k.bt⟩
theorem tit_box {t rc rr sd : Int} {n : Nat} {R : List Int} (h : BoxR t rc rr sd n R) (hn : 336 ≤ n) : tit ((R.drop 308).take 15) = [65 + pickI sd 26, 98] := by
  have hp := pick_lt sd 26 (by decide)
  have hl : ((R.drop 308).take 15).length = 15 := by rw [List.length_take, List.length_drop, h.l]; omega
  have hg := mid_getD R 308 15
  obtain ⟨C, hC⟩ : ∃ C, (R.drop 308).take 15 = C := ⟨_, rfl⟩
  rw [hC] at hl hg ⊢
  have g0 : C.getD 0 0 = 65 + pickI sd 26 := by rw [hg 0 (by omega), h.f 308 (by omega) (by omega) (by omega)]; rfl
  have g1 : C.getD 1 0 = 98 := by rw [hg 1 (by omega), h.f 309 (by omega) (by omega) (by omega)]; rfl
  have g2 : C.getD 2 0 = 0 := by rw [hg 2 (by omega), h.f 310 (by omega) (by omega) (by omega)]; rfl
  rw [tit_at C 2 (by omega) (fun k hk => by
    rcases (show k = 0 ∨ k = 1 by omega) with e | e <;> subst e
    · rw [g0]; omega
    · rw [g1]; decide) (fun _ => g2)]
  match C, hl, g0, g1 with
  | x :: y :: C', _, e0, e1 =>
    have e0 : x = 65 + pickI sd 26 := e0
    have e1 : y = 98 := e1
    rw [e0, e1]; rfl
theorem box_bytes {t rc rr sd : Int} {n : Nat} {R : List Int} (h : BoxR t rc rr sd n R) (hn : 336 ≤ n) : mkdB R = true ∧ R.getD 323 0 = 0 ∧ R.getD 327 0 = t % 256 ∧ R.getD 328 0 = rc % 256 ∧ R.getD 329 0 = rr % 256 := by
  refine ⟨(mkdB_t R).2 fun i hi => ?_, ?_, ?_, ?_, ?_⟩
  · rw [h.f _ (by omega) (by omega) (by omega)]
    unfold romP
    rw [if_pos (by omega), show 260 + i - 260 = i by omega]
  · rw [h.f _ (by omega) (by omega) (by omega)]; rfl
  · rw [h.f _ (by omega) (by omega) (by omega)]; rfl
  · rw [h.f _ (by omega) (by omega) (by omega)]; rfl
  · rw [h.f _ (by omega) (by omega) (by omega)]; rfl
theorem chk_kd {t rc rr sd : Int} {n : Nat} {R : List Int} (h : BoxR t rc rr sd n R) (hn : 32768 ≤ n ∧ n ≤ 2097152) : chk R = match kdOf (t % 256) with
    | none => (hd0, 45)
    | some k => if 6 < rc % 256 ∨ k.bk < bnk (rc % 256) ∨ bnk (rc % 256) * 16384 ≠ n then (hd0, 46)
      else if rr % 256 ∉ k.cl then (hd0, 47)
      else (hdX (t % 256) (rc % 256) (rr % 256) sd k, 0) := by
  obtain ⟨h1, h2, h3, h4, h5⟩ := box_bytes h (by omega)
  unfold chk
  rw [h.l, if_neg (by omega), if_neg (by rw [h1]; decide), if_neg (by rw [h.s]; simp), if_neg (by rw [h2]; decide), h3, h4, h5]
  cases kdOf (t % 256) with
  | none => rfl
  | some k =>
    dsimp only
    unfold hdB hdX
    rw [tit_box h (by omega), h3, h4, h5]
/-- A box that must be taken. -/
theorem chk_box {t rc rr sd : Int} {n : Nat} {R : List Int} {k : Kd} (h : BoxR t rc rr sd n R) (ht : 0 ≤ t ∧ t ≤ 255) (hrc : 0 ≤ rc ∧ rc ≤ 6) (hrr : 0 ≤ rr ∧ rr ≤ 255) (hk : kdOf t = some k) (hb : bnk rc ≤ k.bk) (hn : (n : Int) = 16384 * bnk rc) (hc : rr ∈ k.cl) : chk R = (hdX t rc rr sd k, 0) := by
  have hbk : 2 ≤ bnk rc ∧ bnk rc ≤ 128 := (shl_bnk hrc).2
  have e1 : t % 256 = t := by omega
  have e2 : rc % 256 = rc := by omega
  have e3 : rr % 256 = rr := by omega
  rw [chk_kd h (by omega), e1, e2, e3, hk]
  dsimp only
  rw [if_neg (by omega), if_neg (by simpa using hc)]
end Go.Proofs.YthjhkondmobaeaaDoor

/- cart, plain: what Read tells of the banks; what writes do to the registers. -/
namespace Go.Proofs.YthjhkondmobaeaaDoor
open Go.Sl Go.Xg
set_option linter.unusedVariables false
set_option linter.unusedSimpArgs false

end Go.Proofs.YthjhkondmobaeaaDoor

/- a box of a statement's own. -/
namespace Go.Proofs.YthjhkondmobaeaaDoor
open Go.Sl Go.Xg
set_option linter.unusedVariables false
set_option linter.unusedSimpArgs false
set_option maxHeartbeats 4000000
set_option maxRecDepth 100000

theorem reads_none (A : HP) (sz : Nat) : Reads A sz (.slice none 0 0) 0 [] := ⟨fun g F w hS => ⟨_, _, rfl, (Nat.zero_mul sz).symm, fun j u hu => by cases hu⟩⟩
/-- A box of a statement's own. -/
theorem rom_own (A : HP) (t rc rr sd : Int) (ht : iok t) (hrc : 0 ≤ rc ∧ rc ≤ 6) (hrr : iok rr) (hsd : iok sd) (n : Nat) (hn : (n : Int) = 16384 * bnk rc) : Does Tryd.prog 8 [.agg #[.int .i64 t, .int .i64 rc, .int .i64 rr, .int .i64 sd, .int .i64 0, .slice none 0 0, .slice none 0 0, .bool false]] [A] (RetE (fun x : Option Addr × List Int => BoxR t rc rr sd n x.2) (fun x => .slice x.1 n n) (fun x => [bts x.1 n n x.2, A])) :=
  (rom_d A t rc rr sd 0 [] [] none none 0 0 0 0 n ht ⟨by omega, by omega⟩ hrr hsd (by decide) rfl rfl (Nat.zero_le _) (Nat.zero_le _) (fun i h => absurd h (Nat.not_lt_zero _)) (fun i h => absurd h (Nat.not_lt_zero _)) (reads_none A 1) (reads_none A 1) (by
    have e : pickI rc 7 = rc := by unfold pickI; rw [if_neg (by omega)]; omega
    rw [e, hn]; show 16384 * bnk rc = 16384 * bnk rc + morI 0; unfold morI; rw [if_pos rfl]; omega)).mono fun _ _ ⟨x, hx, e1, e2⟩ => ⟨x, ⟨hx.1, hx.2.1, hx.2.2.1, fun k h1 h2 h3 => hx.2.2.2 rfl k h1 (by have := (shl_bnk hrc).2; omega)⟩, e1, e2⟩
end Go.Proofs.YthjhkondmobaeaaDoor

/- cart's law: each bank is seen. -/
namespace Go.Proofs.YthjhkondmobaeaaDoor
open Go.Sl Go.Xg
set_option linter.unusedVariables false
set_option linter.unusedSimpArgs false
set_option maxHeartbeats 4000000
set_option maxRecDepth 100000

abbrev TyP (te : TypeId) (ta : Option Addr) (tc : Nat) : HP := row 0 te [.slice ta 10 tc]
end Go.Proofs.YthjhkondmobaeaaDoor
