/- The ports package's functions: the table, reads and writes. -/
import Derived.Test.YtncdmccdclhokaaDoorKP4
namespace Go.Proofs.YtncdmccdclhokaaDoor
open Go.Sl Go.Xg
set_option linter.unusedVariables false
set_option linter.unusedSimpArgs false
set_option maxHeartbeats 4000000
set_option maxRecDepth 100000

theorem table_buttons : Does Tryd.prog 29 [.int .i64 65280] [] (Ret (.tuple #[.agg #[.func (.func 42) #[] #[], .func (.func 43) #[] #[]], .bool true]) []) := by
  (focus
    refine Xg.spec_of Go.Proofs.Tryd.func29 rfl Go.Proofs.Tryd.ntmps29 fun g F => ?_)
  (focus
    refine Xg.at_seq ?_
    refine Xg.at_region ?_
    refine Xg.ops_op (by kernel_rfl) (Xg.opx_new 2 [Value.nilFunc, Value.nilFunc] (by kernel_rfl) (by kernel_rfl) fun xb1 => ?_)
    refine Xg.ops_op (by kernel_rfl) (Xg.opx_pure ((Value.bool false)) rfl (fun _ => by kernel_rfl) ?_)
    refine Xg.ops_nil ?_
    refine Xg.at_seq ?_
    refine Xg.at_seq ?_
    refine Xg.at_region ?_
    refine Xg.ops_op (by kernel_rfl) (Xg.opx_pure ((Value.agg #[Value.func (Fn.func (42 : Nat)) #[] #[], Value.func (Fn.func (43 : Nat)) #[] #[]])) rfl (fun _ => by kernel_rfl) ?_)
    refine Xg.ops_op (by kernel_rfl) (Xg.opx_pure ((Value.agg #[Value.int IntKind.i64 (65280 : Int), Value.func (Fn.func (42 : Nat)) #[] #[], Value.func (Fn.func (43 : Nat)) #[] #[]])) rfl (fun _ => by kernel_rfl) ?_)
    refine Xg.ops_op (by kernel_rfl) (Xg.opx_pure ((Value.agg #[Value.func (Fn.func (44 : Nat)) #[] #[], Value.func (Fn.func (45 : Nat)) #[] #[]])) rfl (fun _ => by kernel_rfl) ?_)
    refine Xg.ops_op (by kernel_rfl) (Xg.opx_pure ((Value.agg #[Value.int IntKind.i64 (65281 : Int), Value.func (Fn.func (44 : Nat)) #[] #[], Value.func (Fn.func (45 : Nat)) #[] #[]])) rfl (fun _ => by kernel_rfl) ?_)
    refine Xg.ops_op (by kernel_rfl) (Xg.opx_pure ((Value.agg #[Value.func (Fn.func (46 : Nat)) #[] #[], Value.func (Fn.func (47 : Nat)) #[] #[]])) rfl (fun _ => by kernel_rfl) ?_)
    refine Xg.ops_op (by kernel_rfl) (Xg.opx_pure ((Value.agg #[Value.int IntKind.i64 (65282 : Int), Value.func (Fn.func (46 : Nat)) #[] #[], Value.func (Fn.func (47 : Nat)) #[] #[]])) rfl (fun _ => by kernel_rfl) ?_)
    refine Xg.ops_op (by kernel_rfl) (Xg.opx_pure ((Value.agg #[Value.func (Fn.func (48 : Nat)) #[] #[], Value.func (Fn.func (49 : Nat)) #[] #[]])) rfl (fun _ => by kernel_rfl) ?_)
    refine Xg.ops_op (by kernel_rfl) (Xg.opx_pure ((Value.agg #[Value.int IntKind.i64 (65284 : Int), Value.func (Fn.func (48 : Nat)) #[] #[], Value.func (Fn.func (49 : Nat)) #[] #[]])) rfl (fun _ => by kernel_rfl) ?_)
    refine Xg.ops_op (by kernel_rfl) (Xg.opx_pure ((Value.agg #[Value.func (Fn.func (50 : Nat)) #[] #[], Value.func (Fn.func (51 : Nat)) #[] #[]])) rfl (fun _ => by kernel_rfl) ?_)
    refine Xg.ops_op (by kernel_rfl) (Xg.opx_pure ((Value.agg #[Value.int IntKind.i64 (65285 : Int), Value.func (Fn.func (50 : Nat)) #[] #[], Value.func (Fn.func (51 : Nat)) #[] #[]])) rfl (fun _ => by kernel_rfl) ?_)
    refine Xg.ops_op (by kernel_rfl) (Xg.opx_pure ((Value.agg #[Value.func (Fn.func (52 : Nat)) #[] #[], Value.func (Fn.func (53 : Nat)) #[] #[]])) rfl (fun _ => by kernel_rfl) ?_)
    refine Xg.ops_op (by kernel_rfl) (Xg.opx_pure ((Value.agg #[Value.int IntKind.i64 (65286 : Int), Value.func (Fn.func (52 : Nat)) #[] #[], Value.func (Fn.func (53 : Nat)) #[] #[]])) rfl (fun _ => by kernel_rfl) ?_)
    refine Xg.ops_op (by kernel_rfl) (Xg.opx_pure ((Value.agg #[Value.func (Fn.func (54 : Nat)) #[] #[], Value.func (Fn.func (55 : Nat)) #[] #[]])) rfl (fun _ => by kernel_rfl) ?_)
    refine Xg.ops_op (by kernel_rfl) (Xg.opx_pure ((Value.agg #[Value.int IntKind.i64 (65287 : Int), Value.func (Fn.func (54 : Nat)) #[] #[], Value.func (Fn.func (55 : Nat)) #[] #[]])) rfl (fun _ => by kernel_rfl) ?_)
    refine Xg.ops_op (by kernel_rfl) (Xg.opx_pure ((Value.agg #[Value.func (Fn.func (56 : Nat)) #[] #[], Value.func (Fn.func (57 : Nat)) #[] #[]])) rfl (fun _ => by kernel_rfl) ?_)
    refine Xg.ops_op (by kernel_rfl) (Xg.opx_pure ((Value.agg #[Value.int IntKind.i64 (65295 : Int), Value.func (Fn.func (56 : Nat)) #[] #[], Value.func (Fn.func (57 : Nat)) #[] #[]])) rfl (fun _ => by kernel_rfl) ?_)
    refine Xg.ops_op (by kernel_rfl) (Xg.opx_pure ((Value.agg #[Value.int IntKind.i64 (65280 : Int), Value.func (Fn.func (42 : Nat)) #[] #[], Value.func (Fn.func (43 : Nat)) #[] #[], Value.int IntKind.i64 (65281 : Int), Value.func (Fn.func (44 : Nat)) #[] #[], Value.func (Fn.func (45 : Nat)) #[] #[], Value.int IntKind.i64 (65282 : Int), Value.func (Fn.func (46 : Nat)) #[] #[], Value.func (Fn.func (47 : Nat)) #[] #[], Value.int IntKind.i64 (65284 : Int), Value.func (Fn.func (48 : Nat)) #[] #[], Value.func (Fn.func (49 : Nat)) #[] #[], Value.int IntKind.i64 (65285 : Int), Value.func (Fn.func (50 : Nat)) #[] #[], Value.func (Fn.func (51 : Nat)) #[] #[], Value.int IntKind.i64 (65286 : Int), Value.func (Fn.func (52 : Nat)) #[] #[], Value.func (Fn.func (53 : Nat)) #[] #[], Value.int IntKind.i64 (65287 : Int), Value.func (Fn.func (54 : Nat)) #[] #[], Value.func (Fn.func (55 : Nat)) #[] #[], Value.int IntKind.i64 (65295 : Int), Value.func (Fn.func (56 : Nat)) #[] #[], Value.func (Fn.func (57 : Nat)) #[] #[]])) rfl (fun _ => by kernel_rfl) ?_)
    refine Xg.ops_op (by kernel_rfl) (Xg.opx_pure ((Value.int IntKind.i64 (0 : Int))) rfl (fun _ => by kernel_rfl) ?_)
    refine Xg.ops_nil ?_
    refine Xg.at_block ?_
    refine Xg.at_loop ?_
    refine Xg.at_seq ?_
    refine Xg.at_region ?_
    refine Xg.ops_op (by kernel_rfl) (Xg.opx_pure ((Value.bool true)) rfl (fun _ => by kernel_rfl) ?_)
    refine Xg.ops_nil ?_
    refine Xg.at_seq ?_
    refine Xg.at_true (t := true) (by kernel_rfl) rfl ?_
    refine Xg.at_skip ?_
    refine Xg.at_seq ?_
    refine Xg.at_block ?_
    refine Xg.at_seq ?_
    refine Xg.at_region ?_
    refine Xg.ops_op (by kernel_rfl) (Xg.opx_pure ((Value.agg #[Value.int IntKind.i64 (65280 : Int), Value.func (Fn.func (42 : Nat)) #[] #[], Value.func (Fn.func (43 : Nat)) #[] #[]])) rfl (fun _ => by kernel_rfl) ?_)
    refine Xg.ops_op (by kernel_rfl) (Xg.opx_new 3 [Value.int IntKind.i64 (0 : Int), Value.nilFunc, Value.nilFunc] (by kernel_rfl) (by kernel_rfl) fun xb2 => ?_)
    refine Xg.ops_op (by kernel_rfl) (Xg.opx_storen 3 (off := 0) 0 [Value.int IntKind.i64 (65280 : Int), Value.func (Fn.func (42 : Nat)) #[] #[], Value.func (Fn.func (43 : Nat)) #[] #[]] (by kernel_rfl) rfl (by kernel_rfl) (by kernel_rfl) rfl (by kernel_rfl) (Nat.le_of_ble_eq_true (by kernel_rfl)) ?_)
    refine Xg.ops_nil ?_
    refine Xg.at_seq ?_
    refine Xg.at_region ?_
    refine Xg.ops_op (by kernel_rfl) (Xg.opx_pure ((Value.pointer (some (Addr.mk xb2 (0 : Nat) none)))) rfl (fun _ => by kernel_rfl) ?_)
    refine Xg.ops_op (by kernel_rfl) (Xg.opx_load (b := xb2) (off := ((0 : Nat))) 0 (Value.int IntKind.i64 (65280 : Int)) rfl (by kernel_rfl) (by kernel_rfl) (by kernel_rfl) ?_)
    refine Xg.ops_op (by kernel_rfl) (Xg.opx_pure ((Value.int IntKind.i64 (65280 : Int))) rfl (fun _ => by kernel_rfl) ?_)
    refine Xg.ops_op (by kernel_rfl) (Xg.opx_pure ((Value.bool true)) rfl (fun _ => by kernel_rfl) ?_)
    refine Xg.ops_nil ?_
    refine Xg.at_true (t := true) (by kernel_rfl) rfl ?_
    refine Xg.at_seq ?_
    refine Xg.at_region ?_
    refine Xg.ops_op (by kernel_rfl) (Xg.opx_pure ((Value.pointer (some (Addr.mk xb2 (1 : Nat) none)))) rfl (fun _ => by kernel_rfl) ?_)
    refine Xg.ops_op (by kernel_rfl) (Xg.opx_loadn (off := 1) 2 0 [Value.func (Fn.func (42 : Nat)) #[] #[], Value.func (Fn.func (43 : Nat)) #[] #[]] (by kernel_rfl) rfl (by kernel_rfl) rfl (Xg.cells_at (by kernel_rfl)) (by kernel_rfl) ?_)
    refine Xg.ops_op (by kernel_rfl) (Xg.opx_storen 2 (off := 0) 1 [Value.func (Fn.func (42 : Nat)) #[] #[], Value.func (Fn.func (43 : Nat)) #[] #[]] (by kernel_rfl) rfl (by kernel_rfl) (by kernel_rfl) rfl (by kernel_rfl) (Nat.le_of_ble_eq_true (by kernel_rfl)) ?_)
    refine Xg.ops_op (by kernel_rfl) (Xg.opx_pure ((Value.bool true)) rfl (fun _ => by kernel_rfl) ?_)
    refine Xg.ops_nil ?_
    refine Xg.at_ret_feed (v := (Value.tuple #[Value.agg #[Value.func (Fn.func (42 : Nat)) #[] #[], Value.func (Fn.func (43 : Nat)) #[] #[]], Value.bool true])) [(Addr.mk xb1 (0 : Nat) none), (Addr.mk xb1 (1 : Nat) none)] [Value.func (Fn.func (42 : Nat)) #[] #[], Value.func (Fn.func (43 : Nat)) #[] #[]] [] [] Go.Proofs.Tryd.func29 (by kernel_rfl) (Xg.cells_cons (b := xb1) (off := 0) 1 rfl (by kernel_rfl) (Xg.cells_cons (b := xb1) (off := 1) 1 rfl (by kernel_rfl) Xg.cells_nil)) (by kernel_rfl) (by kernel_rfl) ?_
    exact ⟨by kernel_rfl, by kernel_rfl⟩)

theorem table_shift : Does Tryd.prog 29 [.int .i64 65281] [] (Ret (.tuple #[.agg #[.func (.func 44) #[] #[], .func (.func 45) #[] #[]], .bool true]) []) := by
  (focus
    refine Xg.spec_of Go.Proofs.Tryd.func29 rfl Go.Proofs.Tryd.ntmps29 fun g F => ?_)
  (focus
    refine Xg.at_seq ?_
    refine Xg.at_region ?_
    refine Xg.ops_op (by kernel_rfl) (Xg.opx_new 2 [Value.nilFunc, Value.nilFunc] (by kernel_rfl) (by kernel_rfl) fun xb1 => ?_)
    refine Xg.ops_op (by kernel_rfl) (Xg.opx_pure ((Value.bool false)) rfl (fun _ => by kernel_rfl) ?_)
    refine Xg.ops_nil ?_
    refine Xg.at_seq ?_
    refine Xg.at_seq ?_
    refine Xg.at_region ?_
    refine Xg.ops_op (by kernel_rfl) (Xg.opx_pure ((Value.agg #[Value.func (Fn.func (42 : Nat)) #[] #[], Value.func (Fn.func (43 : Nat)) #[] #[]])) rfl (fun _ => by kernel_rfl) ?_)
    refine Xg.ops_op (by kernel_rfl) (Xg.opx_pure ((Value.agg #[Value.int IntKind.i64 (65280 : Int), Value.func (Fn.func (42 : Nat)) #[] #[], Value.func (Fn.func (43 : Nat)) #[] #[]])) rfl (fun _ => by kernel_rfl) ?_)
    refine Xg.ops_op (by kernel_rfl) (Xg.opx_pure ((Value.agg #[Value.func (Fn.func (44 : Nat)) #[] #[], Value.func (Fn.func (45 : Nat)) #[] #[]])) rfl (fun _ => by kernel_rfl) ?_)
    refine Xg.ops_op (by kernel_rfl) (Xg.opx_pure ((Value.agg #[Value.int IntKind.i64 (65281 : Int), Value.func (Fn.func (44 : Nat)) #[] #[], Value.func (Fn.func (45 : Nat)) #[] #[]])) rfl (fun _ => by kernel_rfl) ?_)
    refine Xg.ops_op (by kernel_rfl) (Xg.opx_pure ((Value.agg #[Value.func (Fn.func (46 : Nat)) #[] #[], Value.func (Fn.func (47 : Nat)) #[] #[]])) rfl (fun _ => by kernel_rfl) ?_)
    refine Xg.ops_op (by kernel_rfl) (Xg.opx_pure ((Value.agg #[Value.int IntKind.i64 (65282 : Int), Value.func (Fn.func (46 : Nat)) #[] #[], Value.func (Fn.func (47 : Nat)) #[] #[]])) rfl (fun _ => by kernel_rfl) ?_)
    refine Xg.ops_op (by kernel_rfl) (Xg.opx_pure ((Value.agg #[Value.func (Fn.func (48 : Nat)) #[] #[], Value.func (Fn.func (49 : Nat)) #[] #[]])) rfl (fun _ => by kernel_rfl) ?_)
    refine Xg.ops_op (by kernel_rfl) (Xg.opx_pure ((Value.agg #[Value.int IntKind.i64 (65284 : Int), Value.func (Fn.func (48 : Nat)) #[] #[], Value.func (Fn.func (49 : Nat)) #[] #[]])) rfl (fun _ => by kernel_rfl) ?_)
    refine Xg.ops_op (by kernel_rfl) (Xg.opx_pure ((Value.agg #[Value.func (Fn.func (50 : Nat)) #[] #[], Value.func (Fn.func (51 : Nat)) #[] #[]])) rfl (fun _ => by kernel_rfl) ?_)
    refine Xg.ops_op (by kernel_rfl) (Xg.opx_pure ((Value.agg #[Value.int IntKind.i64 (65285 : Int), Value.func (Fn.func (50 : Nat)) #[] #[], Value.func (Fn.func (51 : Nat)) #[] #[]])) rfl (fun _ => by kernel_rfl) ?_)
    refine Xg.ops_op (by kernel_rfl) (Xg.opx_pure ((Value.agg #[Value.func (Fn.func (52 : Nat)) #[] #[], Value.func (Fn.func (53 : Nat)) #[] #[]])) rfl (fun _ => by kernel_rfl) ?_)
    refine Xg.ops_op (by kernel_rfl) (Xg.opx_pure ((Value.agg #[Value.int IntKind.i64 (65286 : Int), Value.func (Fn.func (52 : Nat)) #[] #[], Value.func (Fn.func (53 : Nat)) #[] #[]])) rfl (fun _ => by kernel_rfl) ?_)
    refine Xg.ops_op (by kernel_rfl) (Xg.opx_pure ((Value.agg #[Value.func (Fn.func (54 : Nat)) #[] #[], Value.func (Fn.func (55 : Nat)) #[] #[]])) rfl (fun _ => by kernel_rfl) ?_)
    refine Xg.ops_op (by kernel_rfl) (Xg.opx_pure ((Value.agg #[Value.int IntKind.i64 (65287 : Int), Value.func (Fn.func (54 : Nat)) #[] #[], Value.func (Fn.func (55 : Nat)) #[] #[]])) rfl (fun _ => by kernel_rfl) ?_)
    refine Xg.ops_op (by kernel_rfl) (Xg.opx_pure ((Value.agg #[Value.func (Fn.func (56 : Nat)) #[] #[], Value.func (Fn.func (57 : Nat)) #[] #[]])) rfl (fun _ => by kernel_rfl) ?_)
    refine Xg.ops_op (by kernel_rfl) (Xg.opx_pure ((Value.agg #[Value.int IntKind.i64 (65295 : Int), Value.func (Fn.func (56 : Nat)) #[] #[], Value.func (Fn.func (57 : Nat)) #[] #[]])) rfl (fun _ => by kernel_rfl) ?_)
    refine Xg.ops_op (by kernel_rfl) (Xg.opx_pure ((Value.agg #[Value.int IntKind.i64 (65280 : Int), Value.func (Fn.func (42 : Nat)) #[] #[], Value.func (Fn.func (43 : Nat)) #[] #[], Value.int IntKind.i64 (65281 : Int), Value.func (Fn.func (44 : Nat)) #[] #[], Value.func (Fn.func (45 : Nat)) #[] #[], Value.int IntKind.i64 (65282 : Int), Value.func (Fn.func (46 : Nat)) #[] #[], Value.func (Fn.func (47 : Nat)) #[] #[], Value.int IntKind.i64 (65284 : Int), Value.func (Fn.func (48 : Nat)) #[] #[], Value.func (Fn.func (49 : Nat)) #[] #[], Value.int IntKind.i64 (65285 : Int), Value.func (Fn.func (50 : Nat)) #[] #[], Value.func (Fn.func (51 : Nat)) #[] #[], Value.int IntKind.i64 (65286 : Int), Value.func (Fn.func (52 : Nat)) #[] #[], Value.func (Fn.func (53 : Nat)) #[] #[], Value.int IntKind.i64 (65287 : Int), Value.func (Fn.func (54 : Nat)) #[] #[], Value.func (Fn.func (55 : Nat)) #[] #[], Value.int IntKind.i64 (65295 : Int), Value.func (Fn.func (56 : Nat)) #[] #[], Value.func (Fn.func (57 : Nat)) #[] #[]])) rfl (fun _ => by kernel_rfl) ?_)
    refine Xg.ops_op (by kernel_rfl) (Xg.opx_pure ((Value.int IntKind.i64 (0 : Int))) rfl (fun _ => by kernel_rfl) ?_)
    refine Xg.ops_nil ?_
    refine Xg.at_block ?_
    refine Xg.at_loop ?_
    refine Xg.at_seq ?_
    refine Xg.at_region ?_
    refine Xg.ops_op (by kernel_rfl) (Xg.opx_pure ((Value.bool true)) rfl (fun _ => by kernel_rfl) ?_)
    refine Xg.ops_nil ?_
    refine Xg.at_seq ?_
    refine Xg.at_true (t := true) (by kernel_rfl) rfl ?_
    refine Xg.at_skip ?_
    refine Xg.at_seq ?_
    refine Xg.at_block ?_
    refine Xg.at_seq ?_
    refine Xg.at_region ?_
    refine Xg.ops_op (by kernel_rfl) (Xg.opx_pure ((Value.agg #[Value.int IntKind.i64 (65280 : Int), Value.func (Fn.func (42 : Nat)) #[] #[], Value.func (Fn.func (43 : Nat)) #[] #[]])) rfl (fun _ => by kernel_rfl) ?_)
    refine Xg.ops_op (by kernel_rfl) (Xg.opx_new 3 [Value.int IntKind.i64 (0 : Int), Value.nilFunc, Value.nilFunc] (by kernel_rfl) (by kernel_rfl) fun xb2 => ?_)
    refine Xg.ops_op (by kernel_rfl) (Xg.opx_storen 3 (off := 0) 0 [Value.int IntKind.i64 (65280 : Int), Value.func (Fn.func (42 : Nat)) #[] #[], Value.func (Fn.func (43 : Nat)) #[] #[]] (by kernel_rfl) rfl (by kernel_rfl) (by kernel_rfl) rfl (by kernel_rfl) (Nat.le_of_ble_eq_true (by kernel_rfl)) ?_)
    refine Xg.ops_nil ?_
    refine Xg.at_seq ?_
    refine Xg.at_region ?_
    refine Xg.ops_op (by kernel_rfl) (Xg.opx_pure ((Value.pointer (some (Addr.mk xb2 (0 : Nat) none)))) rfl (fun _ => by kernel_rfl) ?_)
    refine Xg.ops_op (by kernel_rfl) (Xg.opx_load (b := xb2) (off := ((0 : Nat))) 0 (Value.int IntKind.i64 (65280 : Int)) rfl (by kernel_rfl) (by kernel_rfl) (by kernel_rfl) ?_)
    refine Xg.ops_op (by kernel_rfl) (Xg.opx_pure ((Value.int IntKind.i64 (65281 : Int))) rfl (fun _ => by kernel_rfl) ?_)
    refine Xg.ops_op (by kernel_rfl) (Xg.opx_pure ((Value.bool false)) rfl (fun _ => by kernel_rfl) ?_)
    refine Xg.ops_nil ?_
    refine Xg.at_false (t := false) (by kernel_rfl) rfl ?_
    refine Xg.at_skip ?_
    refine Xg.at_inBlock ?_
    refine Xg.at_region ?_
    refine Xg.ops_op (by kernel_rfl) (Xg.opx_pure ((Value.int IntKind.i64 (1 : Int))) rfl (fun _ => by kernel_rfl) ?_)
    refine Xg.ops_op (by kernel_rfl) (Xg.opx_pure ((Value.int IntKind.i64 (1 : Int))) rfl (fun _ => by kernel_rfl) ?_)
    refine Xg.ops_nil ?_
    refine Xg.at_inLoop ?_
    refine Xg.at_seq ?_
    refine Xg.at_region ?_
    refine Xg.ops_op (by kernel_rfl) (Xg.opx_pure ((Value.bool true)) rfl (fun _ => by kernel_rfl) ?_)
    refine Xg.ops_nil ?_
    refine Xg.at_seq ?_
    refine Xg.at_true (t := true) (by kernel_rfl) rfl ?_
    refine Xg.at_skip ?_
    refine Xg.at_seq ?_
    refine Xg.at_block ?_
    refine Xg.at_seq ?_
    refine Xg.at_region ?_
    refine Xg.ops_op (by kernel_rfl) (Xg.opx_pure ((Value.agg #[Value.int IntKind.i64 (65281 : Int), Value.func (Fn.func (44 : Nat)) #[] #[], Value.func (Fn.func (45 : Nat)) #[] #[]])) rfl (fun _ => by kernel_rfl) ?_)
    refine Xg.ops_op (by kernel_rfl) (Xg.opx_new 3 [Value.int IntKind.i64 (0 : Int), Value.nilFunc, Value.nilFunc] (by kernel_rfl) (by kernel_rfl) fun xb3 => ?_)
    refine Xg.ops_op (by kernel_rfl) (Xg.opx_storen 3 (off := 0) 0 [Value.int IntKind.i64 (65281 : Int), Value.func (Fn.func (44 : Nat)) #[] #[], Value.func (Fn.func (45 : Nat)) #[] #[]] (by kernel_rfl) rfl (by kernel_rfl) (by kernel_rfl) rfl (by kernel_rfl) (Nat.le_of_ble_eq_true (by kernel_rfl)) ?_)
    refine Xg.ops_nil ?_
    refine Xg.at_seq ?_
    refine Xg.at_region ?_
    refine Xg.ops_op (by kernel_rfl) (Xg.opx_pure ((Value.pointer (some (Addr.mk xb3 (0 : Nat) none)))) rfl (fun _ => by kernel_rfl) ?_)
    refine Xg.ops_op (by kernel_rfl) (Xg.opx_load (b := xb3) (off := ((0 : Nat))) 0 (Value.int IntKind.i64 (65281 : Int)) rfl (by kernel_rfl) (by kernel_rfl) (by kernel_rfl) ?_)
    refine Xg.ops_op (by kernel_rfl) (Xg.opx_pure ((Value.int IntKind.i64 (65281 : Int))) rfl (fun _ => by kernel_rfl) ?_)
    refine Xg.ops_op (by kernel_rfl) (Xg.opx_pure ((Value.bool true)) rfl (fun _ => by kernel_rfl) ?_)
    refine Xg.ops_nil ?_
    refine Xg.at_true (t := true) (by kernel_rfl) rfl ?_
    refine Xg.at_seq ?_
    refine Xg.at_region ?_
    refine Xg.ops_op (by kernel_rfl) (Xg.opx_pure ((Value.pointer (some (Addr.mk xb3 (1 : Nat) none)))) rfl (fun _ => by kernel_rfl) ?_)
    refine Xg.ops_op (by kernel_rfl) (Xg.opx_loadn (off := 1) 2 0 [Value.func (Fn.func (44 : Nat)) #[] #[], Value.func (Fn.func (45 : Nat)) #[] #[]] (by kernel_rfl) rfl (by kernel_rfl) rfl (Xg.cells_at (by kernel_rfl)) (by kernel_rfl) ?_)
    refine Xg.ops_op (by kernel_rfl) (Xg.opx_storen 2 (off := 0) 2 [Value.func (Fn.func (44 : Nat)) #[] #[], Value.func (Fn.func (45 : Nat)) #[] #[]] (by kernel_rfl) rfl (by kernel_rfl) (by kernel_rfl) rfl (by kernel_rfl) (Nat.le_of_ble_eq_true (by kernel_rfl)) ?_)
    refine Xg.ops_op (by kernel_rfl) (Xg.opx_pure ((Value.bool true)) rfl (fun _ => by kernel_rfl) ?_)
    refine Xg.ops_nil ?_
    refine Xg.at_ret_feed (v := (Value.tuple #[Value.agg #[Value.func (Fn.func (44 : Nat)) #[] #[], Value.func (Fn.func (45 : Nat)) #[] #[]], Value.bool true])) [(Addr.mk xb1 (0 : Nat) none), (Addr.mk xb1 (1 : Nat) none)] [Value.func (Fn.func (44 : Nat)) #[] #[], Value.func (Fn.func (45 : Nat)) #[] #[]] [] [] Go.Proofs.Tryd.func29 (by kernel_rfl) (Xg.cells_cons (b := xb1) (off := 0) 2 rfl (by kernel_rfl) (Xg.cells_cons (b := xb1) (off := 1) 2 rfl (by kernel_rfl) Xg.cells_nil)) (by kernel_rfl) (by kernel_rfl) ?_
    exact ⟨by kernel_rfl, by kernel_rfl⟩)

theorem table_line : Does Tryd.prog 29 [.int .i64 65282] [] (Ret (.tuple #[.agg #[.func (.func 46) #[] #[], .func (.func 47) #[] #[]], .bool true]) []) := by
  (focus
    refine Xg.spec_of Go.Proofs.Tryd.func29 rfl Go.Proofs.Tryd.ntmps29 fun g F => ?_)
  (focus
    refine Xg.at_seq ?_
    refine Xg.at_region ?_
    refine Xg.ops_op (by kernel_rfl) (Xg.opx_new 2 [Value.nilFunc, Value.nilFunc] (by kernel_rfl) (by kernel_rfl) fun xb1 => ?_)
    refine Xg.ops_op (by kernel_rfl) (Xg.opx_pure ((Value.bool false)) rfl (fun _ => by kernel_rfl) ?_)
    refine Xg.ops_nil ?_
    refine Xg.at_seq ?_
    refine Xg.at_seq ?_
    refine Xg.at_region ?_
    refine Xg.ops_op (by kernel_rfl) (Xg.opx_pure ((Value.agg #[Value.func (Fn.func (42 : Nat)) #[] #[], Value.func (Fn.func (43 : Nat)) #[] #[]])) rfl (fun _ => by kernel_rfl) ?_)
    refine Xg.ops_op (by kernel_rfl) (Xg.opx_pure ((Value.agg #[Value.int IntKind.i64 (65280 : Int), Value.func (Fn.func (42 : Nat)) #[] #[], Value.func (Fn.func (43 : Nat)) #[] #[]])) rfl (fun _ => by kernel_rfl) ?_)
    refine Xg.ops_op (by kernel_rfl) (Xg.opx_pure ((Value.agg #[Value.func (Fn.func (44 : Nat)) #[] #[], Value.func (Fn.func (45 : Nat)) #[] #[]])) rfl (fun _ => by kernel_rfl) ?_)
    refine Xg.ops_op (by kernel_rfl) (Xg.opx_pure ((Value.agg #[Value.int IntKind.i64 (65281 : Int), Value.func (Fn.func (44 : Nat)) #[] #[], Value.func (Fn.func (45 : Nat)) #[] #[]])) rfl (fun _ => by kernel_rfl) ?_)
    refine Xg.ops_op (by kernel_rfl) (Xg.opx_pure ((Value.agg #[Value.func (Fn.func (46 : Nat)) #[] #[], Value.func (Fn.func (47 : Nat)) #[] #[]])) rfl (fun _ => by kernel_rfl) ?_)
    refine Xg.ops_op (by kernel_rfl) (Xg.opx_pure ((Value.agg #[Value.int IntKind.i64 (65282 : Int), Value.func (Fn.func (46 : Nat)) #[] #[], Value.func (Fn.func (47 : Nat)) #[] #[]])) rfl (fun _ => by kernel_rfl) ?_)
    refine Xg.ops_op (by kernel_rfl) (Xg.opx_pure ((Value.agg #[Value.func (Fn.func (48 : Nat)) #[] #[], Value.func (Fn.func (49 : Nat)) #[] #[]])) rfl (fun _ => by kernel_rfl) ?_)
    refine Xg.ops_op (by kernel_rfl) (Xg.opx_pure ((Value.agg #[Value.int IntKind.i64 (65284 : Int), Value.func (Fn.func (48 : Nat)) #[] #[], Value.func (Fn.func (49 : Nat)) #[] #[]])) rfl (fun _ => by kernel_rfl) ?_)
    refine Xg.ops_op (by kernel_rfl) (Xg.opx_pure ((Value.agg #[Value.func (Fn.func (50 : Nat)) #[] #[], Value.func (Fn.func (51 : Nat)) #[] #[]])) rfl (fun _ => by kernel_rfl) ?_)
    refine Xg.ops_op (by kernel_rfl) (Xg.opx_pure ((Value.agg #[Value.int IntKind.i64 (65285 : Int), Value.func (Fn.func (50 : Nat)) #[] #[], Value.func (Fn.func (51 : Nat)) #[] #[]])) rfl (fun _ => by kernel_rfl) ?_)
    refine Xg.ops_op (by kernel_rfl) (Xg.opx_pure ((Value.agg #[Value.func (Fn.func (52 : Nat)) #[] #[], Value.func (Fn.func (53 : Nat)) #[] #[]])) rfl (fun _ => by kernel_rfl) ?_)
    refine Xg.ops_op (by kernel_rfl) (Xg.opx_pure ((Value.agg #[Value.int IntKind.i64 (65286 : Int), Value.func (Fn.func (52 : Nat)) #[] #[], Value.func (Fn.func (53 : Nat)) #[] #[]])) rfl (fun _ => by kernel_rfl) ?_)
    refine Xg.ops_op (by kernel_rfl) (Xg.opx_pure ((Value.agg #[Value.func (Fn.func (54 : Nat)) #[] #[], Value.func (Fn.func (55 : Nat)) #[] #[]])) rfl (fun _ => by kernel_rfl) ?_)
    refine Xg.ops_op (by kernel_rfl) (Xg.opx_pure ((Value.agg #[Value.int IntKind.i64 (65287 : Int), Value.func (Fn.func (54 : Nat)) #[] #[], Value.func (Fn.func (55 : Nat)) #[] #[]])) rfl (fun _ => by kernel_rfl) ?_)
    refine Xg.ops_op (by kernel_rfl) (Xg.opx_pure ((Value.agg #[Value.func (Fn.func (56 : Nat)) #[] #[], Value.func (Fn.func (57 : Nat)) #[] #[]])) rfl (fun _ => by kernel_rfl) ?_)
    refine Xg.ops_op (by kernel_rfl) (Xg.opx_pure ((Value.agg #[Value.int IntKind.i64 (65295 : Int), Value.func (Fn.func (56 : Nat)) #[] #[], Value.func (Fn.func (57 : Nat)) #[] #[]])) rfl (fun _ => by kernel_rfl) ?_)
    refine Xg.ops_op (by kernel_rfl) (Xg.opx_pure ((Value.agg #[Value.int IntKind.i64 (65280 : Int), Value.func (Fn.func (42 : Nat)) #[] #[], Value.func (Fn.func (43 : Nat)) #[] #[], Value.int IntKind.i64 (65281 : Int), Value.func (Fn.func (44 : Nat)) #[] #[], Value.func (Fn.func (45 : Nat)) #[] #[], Value.int IntKind.i64 (65282 : Int), Value.func (Fn.func (46 : Nat)) #[] #[], Value.func (Fn.func (47 : Nat)) #[] #[], Value.int IntKind.i64 (65284 : Int), Value.func (Fn.func (48 : Nat)) #[] #[], Value.func (Fn.func (49 : Nat)) #[] #[], Value.int IntKind.i64 (65285 : Int), Value.func (Fn.func (50 : Nat)) #[] #[], Value.func (Fn.func (51 : Nat)) #[] #[], Value.int IntKind.i64 (65286 : Int), Value.func (Fn.func (52 : Nat)) #[] #[], Value.func (Fn.func (53 : Nat)) #[] #[], Value.int IntKind.i64 (65287 : Int), Value.func (Fn.func (54 : Nat)) #[] #[], Value.func (Fn.func (55 : Nat)) #[] #[], Value.int IntKind.i64 (65295 : Int), Value.func (Fn.func (56 : Nat)) #[] #[], Value.func (Fn.func (57 : Nat)) #[] #[]])) rfl (fun _ => by kernel_rfl) ?_)
    refine Xg.ops_op (by kernel_rfl) (Xg.opx_pure ((Value.int IntKind.i64 (0 : Int))) rfl (fun _ => by kernel_rfl) ?_)
    refine Xg.ops_nil ?_
    refine Xg.at_block ?_
    refine Xg.at_loop ?_
    refine Xg.at_seq ?_
    refine Xg.at_region ?_
    refine Xg.ops_op (by kernel_rfl) (Xg.opx_pure ((Value.bool true)) rfl (fun _ => by kernel_rfl) ?_)
    refine Xg.ops_nil ?_
    refine Xg.at_seq ?_
    refine Xg.at_true (t := true) (by kernel_rfl) rfl ?_
    refine Xg.at_skip ?_
    refine Xg.at_seq ?_
    refine Xg.at_block ?_
    refine Xg.at_seq ?_
    refine Xg.at_region ?_
    refine Xg.ops_op (by kernel_rfl) (Xg.opx_pure ((Value.agg #[Value.int IntKind.i64 (65280 : Int), Value.func (Fn.func (42 : Nat)) #[] #[], Value.func (Fn.func (43 : Nat)) #[] #[]])) rfl (fun _ => by kernel_rfl) ?_)
    refine Xg.ops_op (by kernel_rfl) (Xg.opx_new 3 [Value.int IntKind.i64 (0 : Int), Value.nilFunc, Value.nilFunc] (by kernel_rfl) (by kernel_rfl) fun xb2 => ?_)
    refine Xg.ops_op (by kernel_rfl) (Xg.opx_storen 3 (off := 0) 0 [Value.int IntKind.i64 (65280 : Int), Value.func (Fn.func (42 : Nat)) #[] #[], Value.func (Fn.func (43 : Nat)) #[] #[]] (by kernel_rfl) rfl (by kernel_rfl) (by kernel_rfl) rfl (by kernel_rfl) (Nat.le_of_ble_eq_true (by kernel_rfl)) ?_)
    refine Xg.ops_nil ?_
    refine Xg.at_seq ?_
    refine Xg.at_region ?_
    refine Xg.ops_op (by kernel_rfl) (Xg.opx_pure ((Value.pointer (some (Addr.mk xb2 (0 : Nat) none)))) rfl (fun _ => by kernel_rfl) ?_)
    refine Xg.ops_op (by kernel_rfl) (Xg.opx_load (b := xb2) (off := ((0 : Nat))) 0 (Value.int IntKind.i64 (65280 : Int)) rfl (by kernel_rfl) (by kernel_rfl) (by kernel_rfl) ?_)
    refine Xg.ops_op (by kernel_rfl) (Xg.opx_pure ((Value.int IntKind.i64 (65282 : Int))) rfl (fun _ => by kernel_rfl) ?_)
    refine Xg.ops_op (by kernel_rfl) (Xg.opx_pure ((Value.bool false)) rfl (fun _ => by kernel_rfl) ?_)
    refine Xg.ops_nil ?_
    refine Xg.at_false (t := false) (by kernel_rfl) rfl ?_
    refine Xg.at_skip ?_
    refine Xg.at_inBlock ?_
    refine Xg.at_region ?_
    refine Xg.ops_op (by kernel_rfl) (Xg.opx_pure ((Value.int IntKind.i64 (1 : Int))) rfl (fun _ => by kernel_rfl) ?_)
    refine Xg.ops_op (by kernel_rfl) (Xg.opx_pure ((Value.int IntKind.i64 (1 : Int))) rfl (fun _ => by kernel_rfl) ?_)
    refine Xg.ops_nil ?_
    refine Xg.at_inLoop ?_
    refine Xg.at_seq ?_
    refine Xg.at_region ?_
    refine Xg.ops_op (by kernel_rfl) (Xg.opx_pure ((Value.bool true)) rfl (fun _ => by kernel_rfl) ?_)
    refine Xg.ops_nil ?_
    refine Xg.at_seq ?_
    refine Xg.at_true (t := true) (by kernel_rfl) rfl ?_
    refine Xg.at_skip ?_
    refine Xg.at_seq ?_
    refine Xg.at_block ?_
    refine Xg.at_seq ?_
    refine Xg.at_region ?_
    refine Xg.ops_op (by kernel_rfl) (Xg.opx_pure ((Value.agg #[Value.int IntKind.i64 (65281 : Int), Value.func (Fn.func (44 : Nat)) #[] #[], Value.func (Fn.func (45 : Nat)) #[] #[]])) rfl (fun _ => by kernel_rfl) ?_)
    refine Xg.ops_op (by kernel_rfl) (Xg.opx_new 3 [Value.int IntKind.i64 (0 : Int), Value.nilFunc, Value.nilFunc] (by kernel_rfl) (by kernel_rfl) fun xb3 => ?_)
    refine Xg.ops_op (by kernel_rfl) (Xg.opx_storen 3 (off := 0) 0 [Value.int IntKind.i64 (65281 : Int), Value.func (Fn.func (44 : Nat)) #[] #[], Value.func (Fn.func (45 : Nat)) #[] #[]] (by kernel_rfl) rfl (by kernel_rfl) (by kernel_rfl) rfl (by kernel_rfl) (Nat.le_of_ble_eq_true (by kernel_rfl)) ?_)
    refine Xg.ops_nil ?_
    refine Xg.at_seq ?_
    refine Xg.at_region ?_
    refine Xg.ops_op (by kernel_rfl) (Xg.opx_pure ((Value.pointer (some (Addr.mk xb3 (0 : Nat) none)))) rfl (fun _ => by kernel_rfl) ?_)
    refine Xg.ops_op (by kernel_rfl) (Xg.opx_load (b := xb3) (off := ((0 : Nat))) 0 (Value.int IntKind.i64 (65281 : Int)) rfl (by kernel_rfl) (by kernel_rfl) (by kernel_rfl) ?_)
    refine Xg.ops_op (by kernel_rfl) (Xg.opx_pure ((Value.int IntKind.i64 (65282 : Int))) rfl (fun _ => by kernel_rfl) ?_)
    refine Xg.ops_op (by kernel_rfl) (Xg.opx_pure ((Value.bool false)) rfl (fun _ => by kernel_rfl) ?_)
    refine Xg.ops_nil ?_
    refine Xg.at_false (t := false) (by kernel_rfl) rfl ?_
    refine Xg.at_skip ?_
    refine Xg.at_inBlock ?_
    refine Xg.at_region ?_
    refine Xg.ops_op (by kernel_rfl) (Xg.opx_pure ((Value.int IntKind.i64 (2 : Int))) rfl (fun _ => by kernel_rfl) ?_)
    refine Xg.ops_op (by kernel_rfl) (Xg.opx_pure ((Value.int IntKind.i64 (2 : Int))) rfl (fun _ => by kernel_rfl) ?_)
    refine Xg.ops_nil ?_
    refine Xg.at_inLoop ?_
    refine Xg.at_seq ?_
    refine Xg.at_region ?_
    refine Xg.ops_op (by kernel_rfl) (Xg.opx_pure ((Value.bool true)) rfl (fun _ => by kernel_rfl) ?_)
    refine Xg.ops_nil ?_
    refine Xg.at_seq ?_
    refine Xg.at_true (t := true) (by kernel_rfl) rfl ?_
    refine Xg.at_skip ?_
    refine Xg.at_seq ?_
    refine Xg.at_block ?_
    refine Xg.at_seq ?_
    refine Xg.at_region ?_
    refine Xg.ops_op (by kernel_rfl) (Xg.opx_pure ((Value.agg #[Value.int IntKind.i64 (65282 : Int), Value.func (Fn.func (46 : Nat)) #[] #[], Value.func (Fn.func (47 : Nat)) #[] #[]])) rfl (fun _ => by kernel_rfl) ?_)
    refine Xg.ops_op (by kernel_rfl) (Xg.opx_new 3 [Value.int IntKind.i64 (0 : Int), Value.nilFunc, Value.nilFunc] (by kernel_rfl) (by kernel_rfl) fun xb4 => ?_)
    refine Xg.ops_op (by kernel_rfl) (Xg.opx_storen 3 (off := 0) 0 [Value.int IntKind.i64 (65282 : Int), Value.func (Fn.func (46 : Nat)) #[] #[], Value.func (Fn.func (47 : Nat)) #[] #[]] (by kernel_rfl) rfl (by kernel_rfl) (by kernel_rfl) rfl (by kernel_rfl) (Nat.le_of_ble_eq_true (by kernel_rfl)) ?_)
    refine Xg.ops_nil ?_
    refine Xg.at_seq ?_
    refine Xg.at_region ?_
    refine Xg.ops_op (by kernel_rfl) (Xg.opx_pure ((Value.pointer (some (Addr.mk xb4 (0 : Nat) none)))) rfl (fun _ => by kernel_rfl) ?_)
    refine Xg.ops_op (by kernel_rfl) (Xg.opx_load (b := xb4) (off := ((0 : Nat))) 0 (Value.int IntKind.i64 (65282 : Int)) rfl (by kernel_rfl) (by kernel_rfl) (by kernel_rfl) ?_)
    refine Xg.ops_op (by kernel_rfl) (Xg.opx_pure ((Value.int IntKind.i64 (65282 : Int))) rfl (fun _ => by kernel_rfl) ?_)
    refine Xg.ops_op (by kernel_rfl) (Xg.opx_pure ((Value.bool true)) rfl (fun _ => by kernel_rfl) ?_)
    refine Xg.ops_nil ?_
    refine Xg.at_true (t := true) (by kernel_rfl) rfl ?_
    refine Xg.at_seq ?_
    refine Xg.at_region ?_
    refine Xg.ops_op (by kernel_rfl) (Xg.opx_pure ((Value.pointer (some (Addr.mk xb4 (1 : Nat) none)))) rfl (fun _ => by kernel_rfl) ?_)
    refine Xg.ops_op (by kernel_rfl) (Xg.opx_loadn (off := 1) 2 0 [Value.func (Fn.func (46 : Nat)) #[] #[], Value.func (Fn.func (47 : Nat)) #[] #[]] (by kernel_rfl) rfl (by kernel_rfl) rfl (Xg.cells_at (by kernel_rfl)) (by kernel_rfl) ?_)
    refine Xg.ops_op (by kernel_rfl) (Xg.opx_storen 2 (off := 0) 3 [Value.func (Fn.func (46 : Nat)) #[] #[], Value.func (Fn.func (47 : Nat)) #[] #[]] (by kernel_rfl) rfl (by kernel_rfl) (by kernel_rfl) rfl (by kernel_rfl) (Nat.le_of_ble_eq_true (by kernel_rfl)) ?_)
    refine Xg.ops_op (by kernel_rfl) (Xg.opx_pure ((Value.bool true)) rfl (fun _ => by kernel_rfl) ?_)
    refine Xg.ops_nil ?_
    refine Xg.at_ret_feed (v := (Value.tuple #[Value.agg #[Value.func (Fn.func (46 : Nat)) #[] #[], Value.func (Fn.func (47 : Nat)) #[] #[]], Value.bool true])) [(Addr.mk xb1 (0 : Nat) none), (Addr.mk xb1 (1 : Nat) none)] [Value.func (Fn.func (46 : Nat)) #[] #[], Value.func (Fn.func (47 : Nat)) #[] #[]] [] [] Go.Proofs.Tryd.func29 (by kernel_rfl) (Xg.cells_cons (b := xb1) (off := 0) 3 rfl (by kernel_rfl) (Xg.cells_cons (b := xb1) (off := 1) 3 rfl (by kernel_rfl) Xg.cells_nil)) (by kernel_rfl) (by kernel_rfl) ?_
    exact ⟨by kernel_rfl, by kernel_rfl⟩)

theorem table_divider : Does Tryd.prog 29 [.int .i64 65284] [] (Ret (.tuple #[.agg #[.func (.func 48) #[] #[], .func (.func 49) #[] #[]], .bool true]) []) := by
  (focus
    refine Xg.spec_of Go.Proofs.Tryd.func29 rfl Go.Proofs.Tryd.ntmps29 fun g F => ?_)
  (focus
    refine Xg.at_seq ?_
    refine Xg.at_region ?_
    refine Xg.ops_op (by kernel_rfl) (Xg.opx_new 2 [Value.nilFunc, Value.nilFunc] (by kernel_rfl) (by kernel_rfl) fun xb1 => ?_)
    refine Xg.ops_op (by kernel_rfl) (Xg.opx_pure ((Value.bool false)) rfl (fun _ => by kernel_rfl) ?_)
    refine Xg.ops_nil ?_
    refine Xg.at_seq ?_
    refine Xg.at_seq ?_
    refine Xg.at_region ?_
    refine Xg.ops_op (by kernel_rfl) (Xg.opx_pure ((Value.agg #[Value.func (Fn.func (42 : Nat)) #[] #[], Value.func (Fn.func (43 : Nat)) #[] #[]])) rfl (fun _ => by kernel_rfl) ?_)
    refine Xg.ops_op (by kernel_rfl) (Xg.opx_pure ((Value.agg #[Value.int IntKind.i64 (65280 : Int), Value.func (Fn.func (42 : Nat)) #[] #[], Value.func (Fn.func (43 : Nat)) #[] #[]])) rfl (fun _ => by kernel_rfl) ?_)
    refine Xg.ops_op (by kernel_rfl) (Xg.opx_pure ((Value.agg #[Value.func (Fn.func (44 : Nat)) #[] #[], Value.func (Fn.func (45 : Nat)) #[] #[]])) rfl (fun _ => by kernel_rfl) ?_)
    refine Xg.ops_op (by kernel_rfl) (Xg.opx_pure ((Value.agg #[Value.int IntKind.i64 (65281 : Int), Value.func (Fn.func (44 : Nat)) #[] #[], Value.func (Fn.func (45 : Nat)) #[] #[]])) rfl (fun _ => by kernel_rfl) ?_)
    refine Xg.ops_op (by kernel_rfl) (Xg.opx_pure ((Value.agg #[Value.func (Fn.func (46 : Nat)) #[] #[], Value.func (Fn.func (47 : Nat)) #[] #[]])) rfl (fun _ => by kernel_rfl) ?_)
    refine Xg.ops_op (by kernel_rfl) (Xg.opx_pure ((Value.agg #[Value.int IntKind.i64 (65282 : Int), Value.func (Fn.func (46 : Nat)) #[] #[], Value.func (Fn.func (47 : Nat)) #[] #[]])) rfl (fun _ => by kernel_rfl) ?_)
    refine Xg.ops_op (by kernel_rfl) (Xg.opx_pure ((Value.agg #[Value.func (Fn.func (48 : Nat)) #[] #[], Value.func (Fn.func (49 : Nat)) #[] #[]])) rfl (fun _ => by kernel_rfl) ?_)
    refine Xg.ops_op (by kernel_rfl) (Xg.opx_pure ((Value.agg #[Value.int IntKind.i64 (65284 : Int), Value.func (Fn.func (48 : Nat)) #[] #[], Value.func (Fn.func (49 : Nat)) #[] #[]])) rfl (fun _ => by kernel_rfl) ?_)
    refine Xg.ops_op (by kernel_rfl) (Xg.opx_pure ((Value.agg #[Value.func (Fn.func (50 : Nat)) #[] #[], Value.func (Fn.func (51 : Nat)) #[] #[]])) rfl (fun _ => by kernel_rfl) ?_)
    refine Xg.ops_op (by kernel_rfl) (Xg.opx_pure ((Value.agg #[Value.int IntKind.i64 (65285 : Int), Value.func (Fn.func (50 : Nat)) #[] #[], Value.func (Fn.func (51 : Nat)) #[] #[]])) rfl (fun _ => by kernel_rfl) ?_)
    refine Xg.ops_op (by kernel_rfl) (Xg.opx_pure ((Value.agg #[Value.func (Fn.func (52 : Nat)) #[] #[], Value.func (Fn.func (53 : Nat)) #[] #[]])) rfl (fun _ => by kernel_rfl) ?_)
    refine Xg.ops_op (by kernel_rfl) (Xg.opx_pure ((Value.agg #[Value.int IntKind.i64 (65286 : Int), Value.func (Fn.func (52 : Nat)) #[] #[], Value.func (Fn.func (53 : Nat)) #[] #[]])) rfl (fun _ => by kernel_rfl) ?_)
    refine Xg.ops_op (by kernel_rfl) (Xg.opx_pure ((Value.agg #[Value.func (Fn.func (54 : Nat)) #[] #[], Value.func (Fn.func (55 : Nat)) #[] #[]])) rfl (fun _ => by kernel_rfl) ?_)
    refine Xg.ops_op (by kernel_rfl) (Xg.opx_pure ((Value.agg #[Value.int IntKind.i64 (65287 : Int), Value.func (Fn.func (54 : Nat)) #[] #[], Value.func (Fn.func (55 : Nat)) #[] #[]])) rfl (fun _ => by kernel_rfl) ?_)
    refine Xg.ops_op (by kernel_rfl) (Xg.opx_pure ((Value.agg #[Value.func (Fn.func (56 : Nat)) #[] #[], Value.func (Fn.func (57 : Nat)) #[] #[]])) rfl (fun _ => by kernel_rfl) ?_)
    refine Xg.ops_op (by kernel_rfl) (Xg.opx_pure ((Value.agg #[Value.int IntKind.i64 (65295 : Int), Value.func (Fn.func (56 : Nat)) #[] #[], Value.func (Fn.func (57 : Nat)) #[] #[]])) rfl (fun _ => by kernel_rfl) ?_)
    refine Xg.ops_op (by kernel_rfl) (Xg.opx_pure ((Value.agg #[Value.int IntKind.i64 (65280 : Int), Value.func (Fn.func (42 : Nat)) #[] #[], Value.func (Fn.func (43 : Nat)) #[] #[], Value.int IntKind.i64 (65281 : Int), Value.func (Fn.func (44 : Nat)) #[] #[], Value.func (Fn.func (45 : Nat)) #[] #[], Value.int IntKind.i64 (65282 : Int), Value.func (Fn.func (46 : Nat)) #[] #[], Value.func (Fn.func (47 : Nat)) #[] #[], Value.int IntKind.i64 (65284 : Int), Value.func (Fn.func (48 : Nat)) #[] #[], Value.func (Fn.func (49 : Nat)) #[] #[], Value.int IntKind.i64 (65285 : Int), Value.func (Fn.func (50 : Nat)) #[] #[], Value.func (Fn.func (51 : Nat)) #[] #[], Value.int IntKind.i64 (65286 : Int), Value.func (Fn.func (52 : Nat)) #[] #[], Value.func (Fn.func (53 : Nat)) #[] #[], Value.int IntKind.i64 (65287 : Int), Value.func (Fn.func (54 : Nat)) #[] #[], Value.func (Fn.func (55 : Nat)) #[] #[], Value.int IntKind.i64 (65295 : Int), Value.func (Fn.func (56 : Nat)) #[] #[], Value.func (Fn.func (57 : Nat)) #[] #[]])) rfl (fun _ => by kernel_rfl) ?_)
    refine Xg.ops_op (by kernel_rfl) (Xg.opx_pure ((Value.int IntKind.i64 (0 : Int))) rfl (fun _ => by kernel_rfl) ?_)
    refine Xg.ops_nil ?_
    refine Xg.at_block ?_
    refine Xg.at_loop ?_
    refine Xg.at_seq ?_
    refine Xg.at_region ?_
    refine Xg.ops_op (by kernel_rfl) (Xg.opx_pure ((Value.bool true)) rfl (fun _ => by kernel_rfl) ?_)
    refine Xg.ops_nil ?_
    refine Xg.at_seq ?_
    refine Xg.at_true (t := true) (by kernel_rfl) rfl ?_
    refine Xg.at_skip ?_
    refine Xg.at_seq ?_
    refine Xg.at_block ?_
    refine Xg.at_seq ?_
    refine Xg.at_region ?_
    refine Xg.ops_op (by kernel_rfl) (Xg.opx_pure ((Value.agg #[Value.int IntKind.i64 (65280 : Int), Value.func (Fn.func (42 : Nat)) #[] #[], Value.func (Fn.func (43 : Nat)) #[] #[]])) rfl (fun _ => by kernel_rfl) ?_)
    refine Xg.ops_op (by kernel_rfl) (Xg.opx_new 3 [Value.int IntKind.i64 (0 : Int), Value.nilFunc, Value.nilFunc] (by kernel_rfl) (by kernel_rfl) fun xb2 => ?_)
    refine Xg.ops_op (by kernel_rfl) (Xg.opx_storen 3 (off := 0) 0 [Value.int IntKind.i64 (65280 : Int), Value.func (Fn.func (42 : Nat)) #[] #[], Value.func (Fn.func (43 : Nat)) #[] #[]] (by kernel_rfl) rfl (by kernel_rfl) (by kernel_rfl) rfl (by kernel_rfl) (Nat.le_of_ble_eq_true (by kernel_rfl)) ?_)
    refine Xg.ops_nil ?_
    refine Xg.at_seq ?_
    refine Xg.at_region ?_
    refine Xg.ops_op (by kernel_rfl) (Xg.opx_pure ((Value.pointer (some (Addr.mk xb2 (0 : Nat) none)))) rfl (fun _ => by kernel_rfl) ?_)
    refine Xg.ops_op (by kernel_rfl) (Xg.opx_load (b := xb2) (off := ((0 : Nat))) 0 (Value.int IntKind.i64 (65280 : Int)) rfl (by kernel_rfl) (by kernel_rfl) (by kernel_rfl) ?_)
    refine Xg.ops_op (by kernel_rfl) (Xg.opx_pure ((Value.int IntKind.i64 (65284 : Int))) rfl (fun _ => by kernel_rfl) ?_)
    refine Xg.ops_op (by kernel_rfl) (Xg.opx_pure ((Value.bool false)) rfl (fun _ => by kernel_rfl) ?_)
    refine Xg.ops_nil ?_
    refine Xg.at_false (t := false) (by kernel_rfl) rfl ?_
    refine Xg.at_skip ?_
    refine Xg.at_inBlock ?_
    refine Xg.at_region ?_
    refine Xg.ops_op (by kernel_rfl) (Xg.opx_pure ((Value.int IntKind.i64 (1 : Int))) rfl (fun _ => by kernel_rfl) ?_)
    refine Xg.ops_op (by kernel_rfl) (Xg.opx_pure ((Value.int IntKind.i64 (1 : Int))) rfl (fun _ => by kernel_rfl) ?_)
    refine Xg.ops_nil ?_
    refine Xg.at_inLoop ?_
    refine Xg.at_seq ?_
    refine Xg.at_region ?_
    refine Xg.ops_op (by kernel_rfl) (Xg.opx_pure ((Value.bool true)) rfl (fun _ => by kernel_rfl) ?_)
    refine Xg.ops_nil ?_
    refine Xg.at_seq ?_
    refine Xg.at_true (t := true) (by kernel_rfl) rfl ?_
    refine Xg.at_skip ?_
    refine Xg.at_seq ?_
    refine Xg.at_block ?_
    refine Xg.at_seq ?_
    refine Xg.at_region ?_
    refine Xg.ops_op (by kernel_rfl) (Xg.opx_pure ((Value.agg #[Value.int IntKind.i64 (65281 : Int), Value.func (Fn.func (44 : Nat)) #[] #[], Value.func (Fn.func (45 : Nat)) #[] #[]])) rfl (fun _ => by kernel_rfl) ?_)
    refine Xg.ops_op (by kernel_rfl) (Xg.opx_new 3 [Value.int IntKind.i64 (0 : Int), Value.nilFunc, Value.nilFunc] (by kernel_rfl) (by kernel_rfl) fun xb3 => ?_)
    refine Xg.ops_op (by kernel_rfl) (Xg.opx_storen 3 (off := 0) 0 [Value.int IntKind.i64 (65281 : Int), Value.func (Fn.func (44 : Nat)) #[] #[], Value.func (Fn.func (45 : Nat)) #[] #[]] (by kernel_rfl) rfl (by kernel_rfl) (by kernel_rfl) rfl (by kernel_rfl) (Nat.le_of_ble_eq_true (by kernel_rfl)) ?_)
    refine Xg.ops_nil ?_
    refine Xg.at_seq ?_
    refine Xg.at_region ?_
    refine Xg.ops_op (by kernel_rfl) (Xg.opx_pure ((Value.pointer (some (Addr.mk xb3 (0 : Nat) none)))) rfl (fun _ => by kernel_rfl) ?_)
    refine Xg.ops_op (by kernel_rfl) (Xg.opx_load (b := xb3) (off := ((0 : Nat))) 0 (Value.int IntKind.i64 (65281 : Int)) rfl (by kernel_rfl) (by kernel_rfl) (by kernel_rfl) ?_)
    refine Xg.ops_op (by kernel_rfl) (Xg.opx_pure ((Value.int IntKind.i64 (65284 : Int))) rfl (fun _ => by kernel_rfl) ?_)
    refine Xg.ops_op (by kernel_rfl) (Xg.opx_pure ((Value.bool false)) rfl (fun _ => by kernel_rfl) ?_)
    refine Xg.ops_nil ?_
    refine Xg.at_false (t := false) (by kernel_rfl) rfl ?_
    refine Xg.at_skip ?_
    refine Xg.at_inBlock ?_
    refine Xg.at_region ?_
    refine Xg.ops_op (by kernel_rfl) (Xg.opx_pure ((Value.int IntKind.i64 (2 : Int))) rfl (fun _ => by kernel_rfl) ?_)
    refine Xg.ops_op (by kernel_rfl) (Xg.opx_pure ((Value.int IntKind.i64 (2 : Int))) rfl (fun _ => by kernel_rfl) ?_)
    refine Xg.ops_nil ?_
    refine Xg.at_inLoop ?_
    refine Xg.at_seq ?_
    refine Xg.at_region ?_
    refine Xg.ops_op (by kernel_rfl) (Xg.opx_pure ((Value.bool true)) rfl (fun _ => by kernel_rfl) ?_)
    refine Xg.ops_nil ?_
    refine Xg.at_seq ?_
    refine Xg.at_true (t := true) (by kernel_rfl) rfl ?_
    refine Xg.at_skip ?_
    refine Xg.at_seq ?_
    refine Xg.at_block ?_
    refine Xg.at_seq ?_
    refine Xg.at_region ?_
    refine Xg.ops_op (by kernel_rfl) (Xg.opx_pure ((Value.agg #[Value.int IntKind.i64 (65282 : Int), Value.func (Fn.func (46 : Nat)) #[] #[], Value.func (Fn.func (47 : Nat)) #[] #[]])) rfl (fun _ => by kernel_rfl) ?_)
    refine Xg.ops_op (by kernel_rfl) (Xg.opx_new 3 [Value.int IntKind.i64 (0 : Int), Value.nilFunc, Value.nilFunc] (by kernel_rfl) (by kernel_rfl) fun xb4 => ?_)
    refine Xg.ops_op (by kernel_rfl) (Xg.opx_storen 3 (off := 0) 0 [Value.int IntKind.i64 (65282 : Int), Value.func (Fn.func (46 : Nat)) #[] #[], Value.func (Fn.func (47 : Nat)) #[] #[]] (by kernel_rfl) rfl (by kernel_rfl) (by kernel_rfl) rfl (by kernel_rfl) (Nat.le_of_ble_eq_true (by kernel_rfl)) ?_)
    refine Xg.ops_nil ?_
    refine Xg.at_seq ?_
    refine Xg.at_region ?_
    refine Xg.ops_op (by kernel_rfl) (Xg.opx_pure ((Value.pointer (some (Addr.mk xb4 (0 : Nat) none)))) rfl (fun _ => by kernel_rfl) ?_)
    refine Xg.ops_op (by kernel_rfl) (Xg.opx_load (b := xb4) (off := ((0 : Nat))) 0 (Value.int IntKind.i64 (65282 : Int)) rfl (by kernel_rfl) (by kernel_rfl) (by kernel_rfl) ?_)
    refine Xg.ops_op (by kernel_rfl) (Xg.opx_pure ((Value.int IntKind.i64 (65284 : Int))) rfl (fun _ => by kernel_rfl) ?_)
    refine Xg.ops_op (by kernel_rfl) (Xg.opx_pure ((Value.bool false)) rfl (fun _ => by kernel_rfl) ?_)
    refine Xg.ops_nil ?_
    refine Xg.at_false (t := false) (by kernel_rfl) rfl ?_
    refine Xg.at_skip ?_
    refine Xg.at_inBlock ?_
    refine Xg.at_region ?_
    refine Xg.ops_op (by kernel_rfl) (Xg.opx_pure ((Value.int IntKind.i64 (3 : Int))) rfl (fun _ => by kernel_rfl) ?_)
    refine Xg.ops_op (by kernel_rfl) (Xg.opx_pure ((Value.int IntKind.i64 (3 : Int))) rfl (fun _ => by kernel_rfl) ?_)
    refine Xg.ops_nil ?_
    refine Xg.at_inLoop ?_
    refine Xg.at_seq ?_
    refine Xg.at_region ?_
    refine Xg.ops_op (by kernel_rfl) (Xg.opx_pure ((Value.bool true)) rfl (fun _ => by kernel_rfl) ?_)
    refine Xg.ops_nil ?_
    refine Xg.at_seq ?_
    refine Xg.at_true (t := true) (by kernel_rfl) rfl ?_
    refine Xg.at_skip ?_
    refine Xg.at_seq ?_
    refine Xg.at_block ?_
    refine Xg.at_seq ?_
    refine Xg.at_region ?_
    refine Xg.ops_op (by kernel_rfl) (Xg.opx_pure ((Value.agg #[Value.int IntKind.i64 (65284 : Int), Value.func (Fn.func (48 : Nat)) #[] #[], Value.func (Fn.func (49 : Nat)) #[] #[]])) rfl (fun _ => by kernel_rfl) ?_)
    refine Xg.ops_op (by kernel_rfl) (Xg.opx_new 3 [Value.int IntKind.i64 (0 : Int), Value.nilFunc, Value.nilFunc] (by kernel_rfl) (by kernel_rfl) fun xb5 => ?_)
    refine Xg.ops_op (by kernel_rfl) (Xg.opx_storen 3 (off := 0) 0 [Value.int IntKind.i64 (65284 : Int), Value.func (Fn.func (48 : Nat)) #[] #[], Value.func (Fn.func (49 : Nat)) #[] #[]] (by kernel_rfl) rfl (by kernel_rfl) (by kernel_rfl) rfl (by kernel_rfl) (Nat.le_of_ble_eq_true (by kernel_rfl)) ?_)
    refine Xg.ops_nil ?_
    refine Xg.at_seq ?_
    refine Xg.at_region ?_
    refine Xg.ops_op (by kernel_rfl) (Xg.opx_pure ((Value.pointer (some (Addr.mk xb5 (0 : Nat) none)))) rfl (fun _ => by kernel_rfl) ?_)
    refine Xg.ops_op (by kernel_rfl) (Xg.opx_load (b := xb5) (off := ((0 : Nat))) 0 (Value.int IntKind.i64 (65284 : Int)) rfl (by kernel_rfl) (by kernel_rfl) (by kernel_rfl) ?_)
    refine Xg.ops_op (by kernel_rfl) (Xg.opx_pure ((Value.int IntKind.i64 (65284 : Int))) rfl (fun _ => by kernel_rfl) ?_)
    refine Xg.ops_op (by kernel_rfl) (Xg.opx_pure ((Value.bool true)) rfl (fun _ => by kernel_rfl) ?_)
    refine Xg.ops_nil ?_
    refine Xg.at_true (t := true) (by kernel_rfl) rfl ?_
    refine Xg.at_seq ?_
    refine Xg.at_region ?_
    refine Xg.ops_op (by kernel_rfl) (Xg.opx_pure ((Value.pointer (some (Addr.mk xb5 (1 : Nat) none)))) rfl (fun _ => by kernel_rfl) ?_)
    refine Xg.ops_op (by kernel_rfl) (Xg.opx_loadn (off := 1) 2 0 [Value.func (Fn.func (48 : Nat)) #[] #[], Value.func (Fn.func (49 : Nat)) #[] #[]] (by kernel_rfl) rfl (by kernel_rfl) rfl (Xg.cells_at (by kernel_rfl)) (by kernel_rfl) ?_)
    refine Xg.ops_op (by kernel_rfl) (Xg.opx_storen 2 (off := 0) 4 [Value.func (Fn.func (48 : Nat)) #[] #[], Value.func (Fn.func (49 : Nat)) #[] #[]] (by kernel_rfl) rfl (by kernel_rfl) (by kernel_rfl) rfl (by kernel_rfl) (Nat.le_of_ble_eq_true (by kernel_rfl)) ?_)
    refine Xg.ops_op (by kernel_rfl) (Xg.opx_pure ((Value.bool true)) rfl (fun _ => by kernel_rfl) ?_)
    refine Xg.ops_nil ?_
    refine Xg.at_ret_feed (v := (Value.tuple #[Value.agg #[Value.func (Fn.func (48 : Nat)) #[] #[], Value.func (Fn.func (49 : Nat)) #[] #[]], Value.bool true])) [(Addr.mk xb1 (0 : Nat) none), (Addr.mk xb1 (1 : Nat) none)] [Value.func (Fn.func (48 : Nat)) #[] #[], Value.func (Fn.func (49 : Nat)) #[] #[]] [] [] Go.Proofs.Tryd.func29 (by kernel_rfl) (Xg.cells_cons (b := xb1) (off := 0) 4 rfl (by kernel_rfl) (Xg.cells_cons (b := xb1) (off := 1) 4 rfl (by kernel_rfl) Xg.cells_nil)) (by kernel_rfl) (by kernel_rfl) ?_
    exact ⟨by kernel_rfl, by kernel_rfl⟩)

theorem table_timer : Does Tryd.prog 29 [.int .i64 65285] [] (Ret (.tuple #[.agg #[.func (.func 50) #[] #[], .func (.func 51) #[] #[]], .bool true]) []) := by
  (focus
    refine Xg.spec_of Go.Proofs.Tryd.func29 rfl Go.Proofs.Tryd.ntmps29 fun g F => ?_)
  (focus
    refine Xg.at_seq ?_
    refine Xg.at_region ?_
    refine Xg.ops_op (by kernel_rfl) (Xg.opx_new 2 [Value.nilFunc, Value.nilFunc] (by kernel_rfl) (by kernel_rfl) fun xb1 => ?_)
    refine Xg.ops_op (by kernel_rfl) (Xg.opx_pure ((Value.bool false)) rfl (fun _ => by kernel_rfl) ?_)
    refine Xg.ops_nil ?_
    refine Xg.at_seq ?_
    refine Xg.at_seq ?_
    refine Xg.at_region ?_
    refine Xg.ops_op (by kernel_rfl) (Xg.opx_pure ((Value.agg #[Value.func (Fn.func (42 : Nat)) #[] #[], Value.func (Fn.func (43 : Nat)) #[] #[]])) rfl (fun _ => by kernel_rfl) ?_)
    refine Xg.ops_op (by kernel_rfl) (Xg.opx_pure ((Value.agg #[Value.int IntKind.i64 (65280 : Int), Value.func (Fn.func (42 : Nat)) #[] #[], Value.func (Fn.func (43 : Nat)) #[] #[]])) rfl (fun _ => by kernel_rfl) ?_)
    refine Xg.ops_op (by kernel_rfl) (Xg.opx_pure ((Value.agg #[Value.func (Fn.func (44 : Nat)) #[] #[], Value.func (Fn.func (45 : Nat)) #[] #[]])) rfl (fun _ => by kernel_rfl) ?_)
    refine Xg.ops_op (by kernel_rfl) (Xg.opx_pure ((Value.agg #[Value.int IntKind.i64 (65281 : Int), Value.func (Fn.func (44 : Nat)) #[] #[], Value.func (Fn.func (45 : Nat)) #[] #[]])) rfl (fun _ => by kernel_rfl) ?_)
    refine Xg.ops_op (by kernel_rfl) (Xg.opx_pure ((Value.agg #[Value.func (Fn.func (46 : Nat)) #[] #[], Value.func (Fn.func (47 : Nat)) #[] #[]])) rfl (fun _ => by kernel_rfl) ?_)
    refine Xg.ops_op (by kernel_rfl) (Xg.opx_pure ((Value.agg #[Value.int IntKind.i64 (65282 : Int), Value.func (Fn.func (46 : Nat)) #[] #[], Value.func (Fn.func (47 : Nat)) #[] #[]])) rfl (fun _ => by kernel_rfl) ?_)
    refine Xg.ops_op (by kernel_rfl) (Xg.opx_pure ((Value.agg #[Value.func (Fn.func (48 : Nat)) #[] #[], Value.func (Fn.func (49 : Nat)) #[] #[]])) rfl (fun _ => by kernel_rfl) ?_)
    refine Xg.ops_op (by kernel_rfl) (Xg.opx_pure ((Value.agg #[Value.int IntKind.i64 (65284 : Int), Value.func (Fn.func (48 : Nat)) #[] #[], Value.func (Fn.func (49 : Nat)) #[] #[]])) rfl (fun _ => by kernel_rfl) ?_)
    refine Xg.ops_op (by kernel_rfl) (Xg.opx_pure ((Value.agg #[Value.func (Fn.func (50 : Nat)) #[] #[], Value.func (Fn.func (51 : Nat)) #[] #[]])) rfl (fun _ => by kernel_rfl) ?_)
    refine Xg.ops_op (by kernel_rfl) (Xg.opx_pure ((Value.agg #[Value.int IntKind.i64 (65285 : Int), Value.func (Fn.func (50 : Nat)) #[] #[], Value.func (Fn.func (51 : Nat)) #[] #[]])) rfl (fun _ => by kernel_rfl) ?_)
    refine Xg.ops_op (by kernel_rfl) (Xg.opx_pure ((Value.agg #[Value.func (Fn.func (52 : Nat)) #[] #[], Value.func (Fn.func (53 : Nat)) #[] #[]])) rfl (fun _ => by kernel_rfl) ?_)
    refine Xg.ops_op (by kernel_rfl) (Xg.opx_pure ((Value.agg #[Value.int IntKind.i64 (65286 : Int), Value.func (Fn.func (52 : Nat)) #[] #[], Value.func (Fn.func (53 : Nat)) #[] #[]])) rfl (fun _ => by kernel_rfl) ?_)
    refine Xg.ops_op (by kernel_rfl) (Xg.opx_pure ((Value.agg #[Value.func (Fn.func (54 : Nat)) #[] #[], Value.func (Fn.func (55 : Nat)) #[] #[]])) rfl (fun _ => by kernel_rfl) ?_)
    refine Xg.ops_op (by kernel_rfl) (Xg.opx_pure ((Value.agg #[Value.int IntKind.i64 (65287 : Int), Value.func (Fn.func (54 : Nat)) #[] #[], Value.func (Fn.func (55 : Nat)) #[] #[]])) rfl (fun _ => by kernel_rfl) ?_)
    refine Xg.ops_op (by kernel_rfl) (Xg.opx_pure ((Value.agg #[Value.func (Fn.func (56 : Nat)) #[] #[], Value.func (Fn.func (57 : Nat)) #[] #[]])) rfl (fun _ => by kernel_rfl) ?_)
    refine Xg.ops_op (by kernel_rfl) (Xg.opx_pure ((Value.agg #[Value.int IntKind.i64 (65295 : Int), Value.func (Fn.func (56 : Nat)) #[] #[], Value.func (Fn.func (57 : Nat)) #[] #[]])) rfl (fun _ => by kernel_rfl) ?_)
    refine Xg.ops_op (by kernel_rfl) (Xg.opx_pure ((Value.agg #[Value.int IntKind.i64 (65280 : Int), Value.func (Fn.func (42 : Nat)) #[] #[], Value.func (Fn.func (43 : Nat)) #[] #[], Value.int IntKind.i64 (65281 : Int), Value.func (Fn.func (44 : Nat)) #[] #[], Value.func (Fn.func (45 : Nat)) #[] #[], Value.int IntKind.i64 (65282 : Int), Value.func (Fn.func (46 : Nat)) #[] #[], Value.func (Fn.func (47 : Nat)) #[] #[], Value.int IntKind.i64 (65284 : Int), Value.func (Fn.func (48 : Nat)) #[] #[], Value.func (Fn.func (49 : Nat)) #[] #[], Value.int IntKind.i64 (65285 : Int), Value.func (Fn.func (50 : Nat)) #[] #[], Value.func (Fn.func (51 : Nat)) #[] #[], Value.int IntKind.i64 (65286 : Int), Value.func (Fn.func (52 : Nat)) #[] #[], Value.func (Fn.func (53 : Nat)) #[] #[], Value.int IntKind.i64 (65287 : Int), Value.func (Fn.func (54 : Nat)) #[] #[], Value.func (Fn.func (55 : Nat)) #[] #[], Value.int IntKind.i64 (65295 : Int), Value.func (Fn.func (56 : Nat)) #[] #[], Value.func (Fn.func (57 : Nat)) #[] #[]])) rfl (fun _ => by kernel_rfl) ?_)
    refine Xg.ops_op (by kernel_rfl) (Xg.opx_pure ((Value.int IntKind.i64 (0 : Int))) rfl (fun _ => by kernel_rfl) ?_)
    refine Xg.ops_nil ?_
    refine Xg.at_block ?_
    refine Xg.at_loop ?_
    refine Xg.at_seq ?_
    refine Xg.at_region ?_
    refine Xg.ops_op (by kernel_rfl) (Xg.opx_pure ((Value.bool true)) rfl (fun _ => by kernel_rfl) ?_)
    refine Xg.ops_nil ?_
    refine Xg.at_seq ?_
    refine Xg.at_true (t := true) (by kernel_rfl) rfl ?_
    refine Xg.at_skip ?_
    refine Xg.at_seq ?_
    refine Xg.at_block ?_
    refine Xg.at_seq ?_
    refine Xg.at_region ?_
    refine Xg.ops_op (by kernel_rfl) (Xg.opx_pure ((Value.agg #[Value.int IntKind.i64 (65280 : Int), Value.func (Fn.func (42 : Nat)) #[] #[], Value.func (Fn.func (43 : Nat)) #[] #[]])) rfl (fun _ => by kernel_rfl) ?_)
    refine Xg.ops_op (by kernel_rfl) (Xg.opx_new 3 [Value.int IntKind.i64 (0 : Int), Value.nilFunc, Value.nilFunc] (by kernel_rfl) (by kernel_rfl) fun xb2 => ?_)
    refine Xg.ops_op (by kernel_rfl) (Xg.opx_storen 3 (off := 0) 0 [Value.int IntKind.i64 (65280 : Int), Value.func (Fn.func (42 : Nat)) #[] #[], Value.func (Fn.func (43 : Nat)) #[] #[]] (by kernel_rfl) rfl (by kernel_rfl) (by kernel_rfl) rfl (by kernel_rfl) (Nat.le_of_ble_eq_true (by kernel_rfl)) ?_)
    refine Xg.ops_nil ?_
    refine Xg.at_seq ?_
    refine Xg.at_region ?_
    refine Xg.ops_op (by kernel_rfl) (Xg.opx_pure ((Value.pointer (some (Addr.mk xb2 (0 : Nat) none)))) rfl (fun _ => by kernel_rfl) ?_)
    refine Xg.ops_op (by kernel_rfl) (Xg.opx_load (b := xb2) (off := ((0 : Nat))) 0 (Value.int IntKind.i64 (65280 : Int)) rfl (by kernel_rfl) (by kernel_rfl) (by kernel_rfl) ?_)
    refine Xg.ops_op (by kernel_rfl) (Xg.opx_pure ((Value.int IntKind.i64 (65285 : Int))) rfl (fun _ => by kernel_rfl) ?_)
    refine Xg.ops_op (by kernel_rfl) (Xg.opx_pure ((Value.bool false)) rfl (fun _ => by kernel_rfl) ?_)
    refine Xg.ops_nil ?_
    refine Xg.at_false (t := false) (by kernel_rfl) rfl ?_
    refine Xg.at_skip ?_
    refine Xg.at_inBlock ?_
    refine Xg.at_region ?_
    refine Xg.ops_op (by kernel_rfl) (Xg.opx_pure ((Value.int IntKind.i64 (1 : Int))) rfl (fun _ => by kernel_rfl) ?_)
    refine Xg.ops_op (by kernel_rfl) (Xg.opx_pure ((Value.int IntKind.i64 (1 : Int))) rfl (fun _ => by kernel_rfl) ?_)
    refine Xg.ops_nil ?_
    refine Xg.at_inLoop ?_
    refine Xg.at_seq ?_
    refine Xg.at_region ?_
    refine Xg.ops_op (by kernel_rfl) (Xg.opx_pure ((Value.bool true)) rfl (fun _ => by kernel_rfl) ?_)
    refine Xg.ops_nil ?_
    refine Xg.at_seq ?_
    refine Xg.at_true (t := true) (by kernel_rfl) rfl ?_
    refine Xg.at_skip ?_
    refine Xg.at_seq ?_
    refine Xg.at_block ?_
    refine Xg.at_seq ?_
    refine Xg.at_region ?_
    refine Xg.ops_op (by kernel_rfl) (Xg.opx_pure ((Value.agg #[Value.int IntKind.i64 (65281 : Int), Value.func (Fn.func (44 : Nat)) #[] #[], Value.func (Fn.func (45 : Nat)) #[] #[]])) rfl (fun _ => by kernel_rfl) ?_)
    refine Xg.ops_op (by kernel_rfl) (Xg.opx_new 3 [Value.int IntKind.i64 (0 : Int), Value.nilFunc, Value.nilFunc] (by kernel_rfl) (by kernel_rfl) fun xb3 => ?_)
    refine Xg.ops_op (by kernel_rfl) (Xg.opx_storen 3 (off := 0) 0 [Value.int IntKind.i64 (65281 : Int), Value.func (Fn.func (44 : Nat)) #[] #[], Value.func (Fn.func (45 : Nat)) #[] #[]] (by kernel_rfl) rfl (by kernel_rfl) (by kernel_rfl) rfl (by kernel_rfl) (Nat.le_of_ble_eq_true (by kernel_rfl)) ?_)
    refine Xg.ops_nil ?_
    refine Xg.at_seq ?_
    refine Xg.at_region ?_
    refine Xg.ops_op (by kernel_rfl) (Xg.opx_pure ((Value.pointer (some (Addr.mk xb3 (0 : Nat) none)))) rfl (fun _ => by kernel_rfl) ?_)
    refine Xg.ops_op (by kernel_rfl) (Xg.opx_load (b := xb3) (off := ((0 : Nat))) 0 (Value.int IntKind.i64 (65281 : Int)) rfl (by kernel_rfl) (by kernel_rfl) (by kernel_rfl) ?_)
    refine Xg.ops_op (by kernel_rfl) (Xg.opx_pure ((Value.int IntKind.i64 (65285 : Int))) rfl (fun _ => by kernel_rfl) ?_)
    refine Xg.ops_op (by kernel_rfl) (Xg.opx_pure ((Value.bool false)) rfl (fun _ => by kernel_rfl) ?_)
    refine Xg.ops_nil ?_
    refine Xg.at_false (t := false) (by kernel_rfl) rfl ?_
    refine Xg.at_skip ?_
    refine Xg.at_inBlock ?_
    refine Xg.at_region ?_
    refine Xg.ops_op (by kernel_rfl) (Xg.opx_pure ((Value.int IntKind.i64 (2 : Int))) rfl (fun _ => by kernel_rfl) ?_)
    refine Xg.ops_op (by kernel_rfl) (Xg.opx_pure ((Value.int IntKind.i64 (2 : Int))) rfl (fun _ => by kernel_rfl) ?_)
    refine Xg.ops_nil ?_
    refine Xg.at_inLoop ?_
    refine Xg.at_seq ?_
    refine Xg.at_region ?_
    refine Xg.ops_op (by kernel_rfl) (Xg.opx_pure ((Value.bool true)) rfl (fun _ => by kernel_rfl) ?_)
    refine Xg.ops_nil ?_
    refine Xg.at_seq ?_
    refine Xg.at_true (t := true) (by kernel_rfl) rfl ?_
    refine Xg.at_skip ?_
    refine Xg.at_seq ?_
    refine Xg.at_block ?_
    refine Xg.at_seq ?_
    refine Xg.at_region ?_
    refine Xg.ops_op (by kernel_rfl) (Xg.opx_pure ((Value.agg #[Value.int IntKind.i64 (65282 : Int), Value.func (Fn.func (46 : Nat)) #[] #[], Value.func (Fn.func (47 : Nat)) #[] #[]])) rfl (fun _ => by kernel_rfl) ?_)
    refine Xg.ops_op (by kernel_rfl) (Xg.opx_new 3 [Value.int IntKind.i64 (0 : Int), Value.nilFunc, Value.nilFunc] (by kernel_rfl) (by kernel_rfl) fun xb4 => ?_)
    refine Xg.ops_op (by kernel_rfl) (Xg.opx_storen 3 (off := 0) 0 [Value.int IntKind.i64 (65282 : Int), Value.func (Fn.func (46 : Nat)) #[] #[], Value.func (Fn.func (47 : Nat)) #[] #[]] (by kernel_rfl) rfl (by kernel_rfl) (by kernel_rfl) rfl (by kernel_rfl) (Nat.le_of_ble_eq_true (by kernel_rfl)) ?_)
    refine Xg.ops_nil ?_
    refine Xg.at_seq ?_
    refine Xg.at_region ?_
    refine Xg.ops_op (by kernel_rfl) (Xg.opx_pure ((Value.pointer (some (Addr.mk xb4 (0 : Nat) none)))) rfl (fun _ => by kernel_rfl) ?_)
    refine Xg.ops_op (by kernel_rfl) (Xg.opx_load (b := xb4) (off := ((0 : Nat))) 0 (Value.int IntKind.i64 (65282 : Int)) rfl (by kernel_rfl) (by kernel_rfl) (by kernel_rfl) ?_)
    refine Xg.ops_op (by kernel_rfl) (Xg.opx_pure ((Value.int IntKind.i64 (65285 : Int))) rfl (fun _ => by kernel_rfl) ?_)
    refine Xg.ops_op (by kernel_rfl) (Xg.opx_pure ((Value.bool false)) rfl (fun _ => by kernel_rfl) ?_)
    refine Xg.ops_nil ?_
    refine Xg.at_false (t := false) (by kernel_rfl) rfl ?_
    refine Xg.at_skip ?_
    refine Xg.at_inBlock ?_
    refine Xg.at_region ?_
    refine Xg.ops_op (by kernel_rfl) (Xg.opx_pure ((Value.int IntKind.i64 (3 : Int))) rfl (fun _ => by kernel_rfl) ?_)
    refine Xg.ops_op (by kernel_rfl) (Xg.opx_pure ((Value.int IntKind.i64 (3 : Int))) rfl (fun _ => by kernel_rfl) ?_)
    refine Xg.ops_nil ?_
    refine Xg.at_inLoop ?_
    refine Xg.at_seq ?_
    refine Xg.at_region ?_
    refine Xg.ops_op (by kernel_rfl) (Xg.opx_pure ((Value.bool true)) rfl (fun _ => by kernel_rfl) ?_)
    refine Xg.ops_nil ?_
    refine Xg.at_seq ?_
    refine Xg.at_true (t := true) (by kernel_rfl) rfl ?_
    refine Xg.at_skip ?_
    refine Xg.at_seq ?_
    refine Xg.at_block ?_
    refine Xg.at_seq ?_
    refine Xg.at_region ?_
    refine Xg.ops_op (by kernel_rfl) (Xg.opx_pure ((Value.agg #[Value.int IntKind.i64 (65284 : Int), Value.func (Fn.func (48 : Nat)) #[] #[], Value.func (Fn.func (49 : Nat)) #[] #[]])) rfl (fun _ => by kernel_rfl) ?_)
    refine Xg.ops_op (by kernel_rfl) (Xg.opx_new 3 [Value.int IntKind.i64 (0 : Int), Value.nilFunc, Value.nilFunc] (by kernel_rfl) (by kernel_rfl) fun xb5 => ?_)
    refine Xg.ops_op (by kernel_rfl) (Xg.opx_storen 3 (off := 0) 0 [Value.int IntKind.i64 (65284 : Int), Value.func (Fn.func (48 : Nat)) #[] #[], Value.func (Fn.func (49 : Nat)) #[] #[]] (by kernel_rfl) rfl (by kernel_rfl) (by kernel_rfl) rfl (by kernel_rfl) (Nat.le_of_ble_eq_true (by kernel_rfl)) ?_)
    refine Xg.ops_nil ?_
    refine Xg.at_seq ?_
    refine Xg.at_region ?_
    refine Xg.ops_op (by kernel_rfl) (Xg.opx_pure ((Value.pointer (some (Addr.mk xb5 (0 : Nat) none)))) rfl (fun _ => by kernel_rfl) ?_)
    refine Xg.ops_op (by kernel_rfl) (Xg.opx_load (b := xb5) (off := ((0 : Nat))) 0 (Value.int IntKind.i64 (65284 : Int)) rfl (by kernel_rfl) (by kernel_rfl) (by kernel_rfl) ?_)
    refine Xg.ops_op (by kernel_rfl) (Xg.opx_pure ((Value.int IntKind.i64 (65285 : Int))) rfl (fun _ => by kernel_rfl) ?_)
    refine Xg.ops_op (by kernel_rfl) (Xg.opx_pure ((Value.bool false)) rfl (fun _ => by kernel_rfl) ?_)
    refine Xg.ops_nil ?_
    refine Xg.at_false (t := false) (by kernel_rfl) rfl ?_
    refine Xg.at_skip ?_
    refine Xg.at_inBlock ?_
    refine Xg.at_region ?_
    refine Xg.ops_op (by kernel_rfl) (Xg.opx_pure ((Value.int IntKind.i64 (4 : Int))) rfl (fun _ => by kernel_rfl) ?_)
    refine Xg.ops_op (by kernel_rfl) (Xg.opx_pure ((Value.int IntKind.i64 (4 : Int))) rfl (fun _ => by kernel_rfl) ?_)
    refine Xg.ops_nil ?_
    refine Xg.at_inLoop ?_
    refine Xg.at_seq ?_
    refine Xg.at_region ?_
    refine Xg.ops_op (by kernel_rfl) (Xg.opx_pure ((Value.bool true)) rfl (fun _ => by kernel_rfl) ?_)
    refine Xg.ops_nil ?_
    refine Xg.at_seq ?_
    refine Xg.at_true (t := true) (by kernel_rfl) rfl ?_
    refine Xg.at_skip ?_
    refine Xg.at_seq ?_
    refine Xg.at_block ?_
    refine Xg.at_seq ?_
    refine Xg.at_region ?_
    refine Xg.ops_op (by kernel_rfl) (Xg.opx_pure ((Value.agg #[Value.int IntKind.i64 (65285 : Int), Value.func (Fn.func (50 : Nat)) #[] #[], Value.func (Fn.func (51 : Nat)) #[] #[]])) rfl (fun _ => by kernel_rfl) ?_)
    refine Xg.ops_op (by kernel_rfl) (Xg.opx_new 3 [Value.int IntKind.i64 (0 : Int), Value.nilFunc, Value.nilFunc] (by kernel_rfl) (by kernel_rfl) fun xb6 => ?_)
    refine Xg.ops_op (by kernel_rfl) (Xg.opx_storen 3 (off := 0) 0 [Value.int IntKind.i64 (65285 : Int), Value.func (Fn.func (50 : Nat)) #[] #[], Value.func (Fn.func (51 : Nat)) #[] #[]] (by kernel_rfl) rfl (by kernel_rfl) (by kernel_rfl) rfl (by kernel_rfl) (Nat.le_of_ble_eq_true (by kernel_rfl)) ?_)
    refine Xg.ops_nil ?_
    refine Xg.at_seq ?_
    refine Xg.at_region ?_
    refine Xg.ops_op (by kernel_rfl) (Xg.opx_pure ((Value.pointer (some (Addr.mk xb6 (0 : Nat) none)))) rfl (fun _ => by kernel_rfl) ?_)
    refine Xg.ops_op (by kernel_rfl) (Xg.opx_load (b := xb6) (off := ((0 : Nat))) 0 (Value.int IntKind.i64 (65285 : Int)) rfl (by kernel_rfl) (by kernel_rfl) (by kernel_rfl) ?_)
    refine Xg.ops_op (by kernel_rfl) (Xg.opx_pure ((Value.int IntKind.i64 (65285 : Int))) rfl (fun _ => by kernel_rfl) ?_)
    refine Xg.ops_op (by kernel_rfl) (Xg.opx_pure ((Value.bool true)) rfl (fun _ => by kernel_rfl) ?_)
    refine Xg.ops_nil ?_
    refine Xg.at_true (t := true) (by kernel_rfl) rfl ?_
    refine Xg.at_seq ?_
    refine Xg.at_region ?_
    refine Xg.ops_op (by kernel_rfl) (Xg.opx_pure ((Value.pointer (some (Addr.mk xb6 (1 : Nat) none)))) rfl (fun _ => by kernel_rfl) ?_)
    refine Xg.ops_op (by kernel_rfl) (Xg.opx_loadn (off := 1) 2 0 [Value.func (Fn.func (50 : Nat)) #[] #[], Value.func (Fn.func (51 : Nat)) #[] #[]] (by kernel_rfl) rfl (by kernel_rfl) rfl (Xg.cells_at (by kernel_rfl)) (by kernel_rfl) ?_)
    refine Xg.ops_op (by kernel_rfl) (Xg.opx_storen 2 (off := 0) 5 [Value.func (Fn.func (50 : Nat)) #[] #[], Value.func (Fn.func (51 : Nat)) #[] #[]] (by kernel_rfl) rfl (by kernel_rfl) (by kernel_rfl) rfl (by kernel_rfl) (Nat.le_of_ble_eq_true (by kernel_rfl)) ?_)
    refine Xg.ops_op (by kernel_rfl) (Xg.opx_pure ((Value.bool true)) rfl (fun _ => by kernel_rfl) ?_)
    refine Xg.ops_nil ?_
    refine Xg.at_ret_feed (v := (Value.tuple #[Value.agg #[Value.func (Fn.func (50 : Nat)) #[] #[], Value.func (Fn.func (51 : Nat)) #[] #[]], Value.bool true])) [(Addr.mk xb1 (0 : Nat) none), (Addr.mk xb1 (1 : Nat) none)] [Value.func (Fn.func (50 : Nat)) #[] #[], Value.func (Fn.func (51 : Nat)) #[] #[]] [] [] Go.Proofs.Tryd.func29 (by kernel_rfl) (Xg.cells_cons (b := xb1) (off := 0) 5 rfl (by kernel_rfl) (Xg.cells_cons (b := xb1) (off := 1) 5 rfl (by kernel_rfl) Xg.cells_nil)) (by kernel_rfl) (by kernel_rfl) ?_
    exact ⟨by kernel_rfl, by kernel_rfl⟩)

theorem table_again : Does Tryd.prog 29 [.int .i64 65286] [] (Ret (.tuple #[.agg #[.func (.func 52) #[] #[], .func (.func 53) #[] #[]], .bool true]) []) := by
  (focus
    refine Xg.spec_of Go.Proofs.Tryd.func29 rfl Go.Proofs.Tryd.ntmps29 fun g F => ?_)
  (focus
    refine Xg.at_seq ?_
    refine Xg.at_region ?_
    refine Xg.ops_op (by kernel_rfl) (Xg.opx_new 2 [Value.nilFunc, Value.nilFunc] (by kernel_rfl) (by kernel_rfl) fun xb1 => ?_)
    refine Xg.ops_op (by kernel_rfl) (Xg.opx_pure ((Value.bool false)) rfl (fun _ => by kernel_rfl) ?_)
    refine Xg.ops_nil ?_
    refine Xg.at_seq ?_
    refine Xg.at_seq ?_
    refine Xg.at_region ?_
    refine Xg.ops_op (by kernel_rfl) (Xg.opx_pure ((Value.agg #[Value.func (Fn.func (42 : Nat)) #[] #[], Value.func (Fn.func (43 : Nat)) #[] #[]])) rfl (fun _ => by kernel_rfl) ?_)
    refine Xg.ops_op (by kernel_rfl) (Xg.opx_pure ((Value.agg #[Value.int IntKind.i64 (65280 : Int), Value.func (Fn.func (42 : Nat)) #[] #[], Value.func (Fn.func (43 : Nat)) #[] #[]])) rfl (fun _ => by kernel_rfl) ?_)
    refine Xg.ops_op (by kernel_rfl) (Xg.opx_pure ((Value.agg #[Value.func (Fn.func (44 : Nat)) #[] #[], Value.func (Fn.func (45 : Nat)) #[] #[]])) rfl (fun _ => by kernel_rfl) ?_)
    refine Xg.ops_op (by kernel_rfl) (Xg.opx_pure ((Value.agg #[Value.int IntKind.i64 (65281 : Int), Value.func (Fn.func (44 : Nat)) #[] #[], Value.func (Fn.func (45 : Nat)) #[] #[]])) rfl (fun _ => by kernel_rfl) ?_)
    refine Xg.ops_op (by kernel_rfl) (Xg.opx_pure ((Value.agg #[Value.func (Fn.func (46 : Nat)) #[] #[], Value.func (Fn.func (47 : Nat)) #[] #[]])) rfl (fun _ => by kernel_rfl) ?_)
    refine Xg.ops_op (by kernel_rfl) (Xg.opx_pure ((Value.agg #[Value.int IntKind.i64 (65282 : Int), Value.func (Fn.func (46 : Nat)) #[] #[], Value.func (Fn.func (47 : Nat)) #[] #[]])) rfl (fun _ => by kernel_rfl) ?_)
    refine Xg.ops_op (by kernel_rfl) (Xg.opx_pure ((Value.agg #[Value.func (Fn.func (48 : Nat)) #[] #[], Value.func (Fn.func (49 : Nat)) #[] #[]])) rfl (fun _ => by kernel_rfl) ?_)
    refine Xg.ops_op (by kernel_rfl) (Xg.opx_pure ((Value.agg #[Value.int IntKind.i64 (65284 : Int), Value.func (Fn.func (48 : Nat)) #[] #[], Value.func (Fn.func (49 : Nat)) #[] #[]])) rfl (fun _ => by kernel_rfl) ?_)
    refine Xg.ops_op (by kernel_rfl) (Xg.opx_pure ((Value.agg #[Value.func (Fn.func (50 : Nat)) #[] #[], Value.func (Fn.func (51 : Nat)) #[] #[]])) rfl (fun _ => by kernel_rfl) ?_)
    refine Xg.ops_op (by kernel_rfl) (Xg.opx_pure ((Value.agg #[Value.int IntKind.i64 (65285 : Int), Value.func (Fn.func (50 : Nat)) #[] #[], Value.func (Fn.func (51 : Nat)) #[] #[]])) rfl (fun _ => by kernel_rfl) ?_)
    refine Xg.ops_op (by kernel_rfl) (Xg.opx_pure ((Value.agg #[Value.func (Fn.func (52 : Nat)) #[] #[], Value.func (Fn.func (53 : Nat)) #[] #[]])) rfl (fun _ => by kernel_rfl) ?_)
    refine Xg.ops_op (by kernel_rfl) (Xg.opx_pure ((Value.agg #[Value.int IntKind.i64 (65286 : Int), Value.func (Fn.func (52 : Nat)) #[] #[], Value.func (Fn.func (53 : Nat)) #[] #[]])) rfl (fun _ => by kernel_rfl) ?_)
    refine Xg.ops_op (by kernel_rfl) (Xg.opx_pure ((Value.agg #[Value.func (Fn.func (54 : Nat)) #[] #[], Value.func (Fn.func (55 : Nat)) #[] #[]])) rfl (fun _ => by kernel_rfl) ?_)
    refine Xg.ops_op (by kernel_rfl) (Xg.opx_pure ((Value.agg #[Value.int IntKind.i64 (65287 : Int), Value.func (Fn.func (54 : Nat)) #[] #[], Value.func (Fn.func (55 : Nat)) #[] #[]])) rfl (fun _ => by kernel_rfl) ?_)
    refine Xg.ops_op (by kernel_rfl) (Xg.opx_pure ((Value.agg #[Value.func (Fn.func (56 : Nat)) #[] #[], Value.func (Fn.func (57 : Nat)) #[] #[]])) rfl (fun _ => by kernel_rfl) ?_)
    refine Xg.ops_op (by kernel_rfl) (Xg.opx_pure ((Value.agg #[Value.int IntKind.i64 (65295 : Int), Value.func (Fn.func (56 : Nat)) #[] #[], Value.func (Fn.func (57 : Nat)) #[] #[]])) rfl (fun _ => by kernel_rfl) ?_)
    refine Xg.ops_op (by kernel_rfl) (Xg.opx_pure ((Value.agg #[Value.int IntKind.i64 (65280 : Int), Value.func (Fn.func (42 : Nat)) #[] #[], Value.func (Fn.func (43 : Nat)) #[] #[], Value.int IntKind.i64 (65281 : Int), Value.func (Fn.func (44 : Nat)) #[] #[], Value.func (Fn.func (45 : Nat)) #[] #[], Value.int IntKind.i64 (65282 : Int), Value.func (Fn.func (46 : Nat)) #[] #[], Value.func (Fn.func (47 : Nat)) #[] #[], Value.int IntKind.i64 (65284 : Int), Value.func (Fn.func (48 : Nat)) #[] #[], Value.func (Fn.func (49 : Nat)) #[] #[], Value.int IntKind.i64 (65285 : Int), Value.func (Fn.func (50 : Nat)) #[] #[], Value.func (Fn.func (51 : Nat)) #[] #[], Value.int IntKind.i64 (65286 : Int), Value.func (Fn.func (52 : Nat)) #[] #[], Value.func (Fn.func (53 : Nat)) #[] #[], Value.int IntKind.i64 (65287 : Int), Value.func (Fn.func (54 : Nat)) #[] #[], Value.func (Fn.func (55 : Nat)) #[] #[], Value.int IntKind.i64 (65295 : Int), Value.func (Fn.func (56 : Nat)) #[] #[], Value.func (Fn.func (57 : Nat)) #[] #[]])) rfl (fun _ => by kernel_rfl) ?_)
    refine Xg.ops_op (by kernel_rfl) (Xg.opx_pure ((Value.int IntKind.i64 (0 : Int))) rfl (fun _ => by kernel_rfl) ?_)
    refine Xg.ops_nil ?_
    refine Xg.at_block ?_
    refine Xg.at_loop ?_
    refine Xg.at_seq ?_
    refine Xg.at_region ?_
    refine Xg.ops_op (by kernel_rfl) (Xg.opx_pure ((Value.bool true)) rfl (fun _ => by kernel_rfl) ?_)
    refine Xg.ops_nil ?_
    refine Xg.at_seq ?_
    refine Xg.at_true (t := true) (by kernel_rfl) rfl ?_
    refine Xg.at_skip ?_
    refine Xg.at_seq ?_
    refine Xg.at_block ?_
    refine Xg.at_seq ?_
    refine Xg.at_region ?_
    refine Xg.ops_op (by kernel_rfl) (Xg.opx_pure ((Value.agg #[Value.int IntKind.i64 (65280 : Int), Value.func (Fn.func (42 : Nat)) #[] #[], Value.func (Fn.func (43 : Nat)) #[] #[]])) rfl (fun _ => by kernel_rfl) ?_)
    refine Xg.ops_op (by kernel_rfl) (Xg.opx_new 3 [Value.int IntKind.i64 (0 : Int), Value.nilFunc, Value.nilFunc] (by kernel_rfl) (by kernel_rfl) fun xb2 => ?_)
    refine Xg.ops_op (by kernel_rfl) (Xg.opx_storen 3 (off := 0) 0 [Value.int IntKind.i64 (65280 : Int), Value.func (Fn.func (42 : Nat)) #[] #[], Value.func (Fn.func (43 : Nat)) #[] #[]] (by kernel_rfl) rfl (by kernel_rfl) (by kernel_rfl) rfl (by kernel_rfl) (Nat.le_of_ble_eq_true (by kernel_rfl)) ?_)
    refine Xg.ops_nil ?_
    refine Xg.at_seq ?_
    refine Xg.at_region ?_
    refine Xg.ops_op (by kernel_rfl) (Xg.opx_pure ((Value.pointer (some (Addr.mk xb2 (0 : Nat) none)))) rfl (fun _ => by kernel_rfl) ?_)
    refine Xg.ops_op (by kernel_rfl) (Xg.opx_load (b := xb2) (off := ((0 : Nat))) 0 (Value.int IntKind.i64 (65280 : Int)) rfl (by kernel_rfl) (by kernel_rfl) (by kernel_rfl) ?_)
    refine Xg.ops_op (by kernel_rfl) (Xg.opx_pure ((Value.int IntKind.i64 (65286 : Int))) rfl (fun _ => by kernel_rfl) ?_)
    refine Xg.ops_op (by kernel_rfl) (Xg.opx_pure ((Value.bool false)) rfl (fun _ => by kernel_rfl) ?_)
    refine Xg.ops_nil ?_
    refine Xg.at_false (t := false) (by kernel_rfl) rfl ?_
    refine Xg.at_skip ?_
    refine Xg.at_inBlock ?_
    refine Xg.at_region ?_
    refine Xg.ops_op (by kernel_rfl) (Xg.opx_pure ((Value.int IntKind.i64 (1 : Int))) rfl (fun _ => by kernel_rfl) ?_)
    refine Xg.ops_op (by kernel_rfl) (Xg.opx_pure ((Value.int IntKind.i64 (1 : Int))) rfl (fun _ => by kernel_rfl) ?_)
    refine Xg.ops_nil ?_
    refine Xg.at_inLoop ?_
    refine Xg.at_seq ?_
    refine Xg.at_region ?_
    refine Xg.ops_op (by kernel_rfl) (Xg.opx_pure ((Value.bool true)) rfl (fun _ => by kernel_rfl) ?_)
    refine Xg.ops_nil ?_
    refine Xg.at_seq ?_
    refine Xg.at_true (t := true) (by kernel_rfl) rfl ?_
    refine Xg.at_skip ?_
    refine Xg.at_seq ?_
    refine Xg.at_block ?_
    refine Xg.at_seq ?_
    refine Xg.at_region ?_
    refine Xg.ops_op (by kernel_rfl) (Xg.opx_pure ((Value.agg #[Value.int IntKind.i64 (65281 : Int), Value.func (Fn.func (44 : Nat)) #[] #[], Value.func (Fn.func (45 : Nat)) #[] #[]])) rfl (fun _ => by kernel_rfl) ?_)
    refine Xg.ops_op (by kernel_rfl) (Xg.opx_new 3 [Value.int IntKind.i64 (0 : Int), Value.nilFunc, Value.nilFunc] (by kernel_rfl) (by kernel_rfl) fun xb3 => ?_)
    refine Xg.ops_op (by kernel_rfl) (Xg.opx_storen 3 (off := 0) 0 [Value.int IntKind.i64 (65281 : Int), Value.func (Fn.func (44 : Nat)) #[] #[], Value.func (Fn.func (45 : Nat)) #[] #[]] (by kernel_rfl) rfl (by kernel_rfl) (by kernel_rfl) rfl (by kernel_rfl) (Nat.le_of_ble_eq_true (by kernel_rfl)) ?_)
    refine Xg.ops_nil ?_
    refine Xg.at_seq ?_
    refine Xg.at_region ?_
    refine Xg.ops_op (by kernel_rfl) (Xg.opx_pure ((Value.pointer (some (Addr.mk xb3 (0 : Nat) none)))) rfl (fun _ => by kernel_rfl) ?_)
    refine Xg.ops_op (by kernel_rfl) (Xg.opx_load (b := xb3) (off := ((0 : Nat))) 0 (Value.int IntKind.i64 (65281 : Int)) rfl (by kernel_rfl) (by kernel_rfl) (by kernel_rfl) ?_)
    refine Xg.ops_op (by kernel_rfl) (Xg.opx_pure ((Value.int IntKind.i64 (65286 : Int))) rfl (fun _ => by kernel_rfl) ?_)
    refine Xg.ops_op (by kernel_rfl) (Xg.opx_pure ((Value.bool false)) rfl (fun _ => by kernel_rfl) ?_)
    refine Xg.ops_nil ?_
    refine Xg.at_false (t := false) (by kernel_rfl) rfl ?_
    refine Xg.at_skip ?_
    refine Xg.at_inBlock ?_
    refine Xg.at_region ?_
    refine Xg.ops_op (by kernel_rfl) (Xg.opx_pure ((Value.int IntKind.i64 (2 : Int))) rfl (fun _ => by kernel_rfl) ?_)
    refine Xg.ops_op (by kernel_rfl) (Xg.opx_pure ((Value.int IntKind.i64 (2 : Int))) rfl (fun _ => by kernel_rfl) ?_)
    refine Xg.ops_nil ?_
    refine Xg.at_inLoop ?_
    refine Xg.at_seq ?_
    refine Xg.at_region ?_
    refine Xg.ops_op (by kernel_rfl) (Xg.opx_pure ((Value.bool true)) rfl (fun _ => by kernel_rfl) ?_)
    refine Xg.ops_nil ?_
    refine Xg.at_seq ?_
    refine Xg.at_true (t := true) (by kernel_rfl) rfl ?_
    refine Xg.at_skip ?_
    refine Xg.at_seq ?_
    refine Xg.at_block ?_
    refine Xg.at_seq ?_
    refine Xg.at_region ?_
    refine Xg.ops_op (by kernel_rfl) (Xg.opx_pure ((Value.agg #[Value.int IntKind.i64 (65282 : Int), Value.func (Fn.func (46 : Nat)) #[] #[], Value.func (Fn.func (47 : Nat)) #[] #[]])) rfl (fun _ => by kernel_rfl) ?_)
    refine Xg.ops_op (by kernel_rfl) (Xg.opx_new 3 [Value.int IntKind.i64 (0 : Int), Value.nilFunc, Value.nilFunc] (by kernel_rfl) (by kernel_rfl) fun xb4 => ?_)
    refine Xg.ops_op (by kernel_rfl) (Xg.opx_storen 3 (off := 0) 0 [Value.int IntKind.i64 (65282 : Int), Value.func (Fn.func (46 : Nat)) #[] #[], Value.func (Fn.func (47 : Nat)) #[] #[]] (by kernel_rfl) rfl (by kernel_rfl) (by kernel_rfl) rfl (by kernel_rfl) (Nat.le_of_ble_eq_true (by kernel_rfl)) ?_)
    refine Xg.ops_nil ?_
    refine Xg.at_seq ?_
    refine Xg.at_region ?_
    refine Xg.ops_op (by kernel_rfl) (Xg.opx_pure ((Value.pointer (some (Addr.mk xb4 (0 : Nat) none)))) rfl (fun _ => by kernel_rfl) ?_)
    refine Xg.ops_op (by kernel_rfl) (Xg.opx_load (b := xb4) (off := ((0 : Nat))) 0 (Value.int IntKind.i64 (65282 : Int)) rfl (by kernel_rfl) (by kernel_rfl) (by kernel_rfl) ?_)
    refine Xg.ops_op (by kernel_rfl) (Xg.opx_pure ((Value.int IntKind.i64 (65286 : Int))) rfl (fun _ => by kernel_rfl) ?_)
    refine Xg.ops_op (by kernel_rfl) (Xg.opx_pure ((Value.bool false)) rfl (fun _ => by kernel_rfl) ?_)
    refine Xg.ops_nil ?_
    refine Xg.at_false (t := false) (by kernel_rfl) rfl ?_
    refine Xg.at_skip ?_
    refine Xg.at_inBlock ?_
    refine Xg.at_region ?_
    refine Xg.ops_op (by kernel_rfl) (Xg.opx_pure ((Value.int IntKind.i64 (3 : Int))) rfl (fun _ => by kernel_rfl) ?_)
    refine Xg.ops_op (by kernel_rfl) (Xg.opx_pure ((Value.int IntKind.i64 (3 : Int))) rfl (fun _ => by kernel_rfl) ?_)
    refine Xg.ops_nil ?_
    refine Xg.at_inLoop ?_
    refine Xg.at_seq ?_
    refine Xg.at_region ?_
    refine Xg.ops_op (by kernel_rfl) (Xg.opx_pure ((Value.bool true)) rfl (fun _ => by kernel_rfl) ?_)
    refine Xg.ops_nil ?_
    refine Xg.at_seq ?_
    refine Xg.at_true (t := true) (by kernel_rfl) rfl ?_
    refine Xg.at_skip ?_
    refine Xg.at_seq ?_
    refine Xg.at_block ?_
    refine Xg.at_seq ?_
    refine Xg.at_region ?_
    refine Xg.ops_op (by kernel_rfl) (Xg.opx_pure ((Value.agg #[Value.int IntKind.i64 (65284 : Int), Value.func (Fn.func (48 : Nat)) #[] #[], Value.func (Fn.func (49 : Nat)) #[] #[]])) rfl (fun _ => by kernel_rfl) ?_)
    refine Xg.ops_op (by kernel_rfl) (Xg.opx_new 3 [Value.int IntKind.i64 (0 : Int), Value.nilFunc, Value.nilFunc] (by kernel_rfl) (by kernel_rfl) fun xb5 => ?_)
    refine Xg.ops_op (by kernel_rfl) (Xg.opx_storen 3 (off := 0) 0 [Value.int IntKind.i64 (65284 : Int), Value.func (Fn.func (48 : Nat)) #[] #[], Value.func (Fn.func (49 : Nat)) #[] #[]] (by kernel_rfl) rfl (by kernel_rfl) (by kernel_rfl) rfl (by kernel_rfl) (Nat.le_of_ble_eq_true (by kernel_rfl)) ?_)
    refine Xg.ops_nil ?_
    refine Xg.at_seq ?_
    refine Xg.at_region ?_
    refine Xg.ops_op (by kernel_rfl) (Xg.opx_pure ((Value.pointer (some (Addr.mk xb5 (0 : Nat) none)))) rfl (fun _ => by kernel_rfl) ?_)
    refine Xg.ops_op (by kernel_rfl) (Xg.opx_load (b := xb5) (off := ((0 : Nat))) 0 (Value.int IntKind.i64 (65284 : Int)) rfl (by kernel_rfl) (by kernel_rfl) (by kernel_rfl) ?_)
    refine Xg.ops_op (by kernel_rfl) (Xg.opx_pure ((Value.int IntKind.i64 (65286 : Int))) rfl (fun _ => by kernel_rfl) ?_)
    refine Xg.ops_op (by kernel_rfl) (Xg.opx_pure ((Value.bool false)) rfl (fun _ => by kernel_rfl) ?_)
    refine Xg.ops_nil ?_
    refine Xg.at_false (t := false) (by kernel_rfl) rfl ?_
    refine Xg.at_skip ?_
    refine Xg.at_inBlock ?_
    refine Xg.at_region ?_
    refine Xg.ops_op (by kernel_rfl) (Xg.opx_pure ((Value.int IntKind.i64 (4 : Int))) rfl (fun _ => by kernel_rfl) ?_)
    refine Xg.ops_op (by kernel_rfl) (Xg.opx_pure ((Value.int IntKind.i64 (4 : Int))) rfl (fun _ => by kernel_rfl) ?_)
    refine Xg.ops_nil ?_
    refine Xg.at_inLoop ?_
    refine Xg.at_seq ?_
    refine Xg.at_region ?_
    refine Xg.ops_op (by kernel_rfl) (Xg.opx_pure ((Value.bool true)) rfl (fun _ => by kernel_rfl) ?_)
    refine Xg.ops_nil ?_
    refine Xg.at_seq ?_
    refine Xg.at_true (t := true) (by kernel_rfl) rfl ?_
    refine Xg.at_skip ?_
    refine Xg.at_seq ?_
    refine Xg.at_block ?_
    refine Xg.at_seq ?_
    refine Xg.at_region ?_
    refine Xg.ops_op (by kernel_rfl) (Xg.opx_pure ((Value.agg #[Value.int IntKind.i64 (65285 : Int), Value.func (Fn.func (50 : Nat)) #[] #[], Value.func (Fn.func (51 : Nat)) #[] #[]])) rfl (fun _ => by kernel_rfl) ?_)
    refine Xg.ops_op (by kernel_rfl) (Xg.opx_new 3 [Value.int IntKind.i64 (0 : Int), Value.nilFunc, Value.nilFunc] (by kernel_rfl) (by kernel_rfl) fun xb6 => ?_)
    refine Xg.ops_op (by kernel_rfl) (Xg.opx_storen 3 (off := 0) 0 [Value.int IntKind.i64 (65285 : Int), Value.func (Fn.func (50 : Nat)) #[] #[], Value.func (Fn.func (51 : Nat)) #[] #[]] (by kernel_rfl) rfl (by kernel_rfl) (by kernel_rfl) rfl (by kernel_rfl) (Nat.le_of_ble_eq_true (by kernel_rfl)) ?_)
    refine Xg.ops_nil ?_
    refine Xg.at_seq ?_
    refine Xg.at_region ?_
    refine Xg.ops_op (by kernel_rfl) (Xg.opx_pure ((Value.pointer (some (Addr.mk xb6 (0 : Nat) none)))) rfl (fun _ => by kernel_rfl) ?_)
    refine Xg.ops_op (by kernel_rfl) (Xg.opx_load (b := xb6) (off := ((0 : Nat))) 0 (Value.int IntKind.i64 (65285 : Int)) rfl (by kernel_rfl) (by kernel_rfl) (by kernel_rfl) ?_)
    refine Xg.ops_op (by kernel_rfl) (Xg.opx_pure ((Value.int IntKind.i64 (65286 : Int))) rfl (fun _ => by kernel_rfl) ?_)
    refine Xg.ops_op (by kernel_rfl) (Xg.opx_pure ((Value.bool false)) rfl (fun _ => by kernel_rfl) ?_)
    refine Xg.ops_nil ?_
    refine Xg.at_false (t := false) (by kernel_rfl) rfl ?_
    refine Xg.at_skip ?_
    refine Xg.at_inBlock ?_
    refine Xg.at_region ?_
    refine Xg.ops_op (by kernel_rfl) (Xg.opx_pure ((Value.int IntKind.i64 (5 : Int))) rfl (fun _ => by kernel_rfl) ?_)
    refine Xg.ops_op (by kernel_rfl) (Xg.opx_pure ((Value.int IntKind.i64 (5 : Int))) rfl (fun _ => by kernel_rfl) ?_)
    refine Xg.ops_nil ?_
    refine Xg.at_inLoop ?_
    refine Xg.at_seq ?_
    refine Xg.at_region ?_
    refine Xg.ops_op (by kernel_rfl) (Xg.opx_pure ((Value.bool true)) rfl (fun _ => by kernel_rfl) ?_)
    refine Xg.ops_nil ?_
    refine Xg.at_seq ?_
    refine Xg.at_true (t := true) (by kernel_rfl) rfl ?_
    refine Xg.at_skip ?_
    refine Xg.at_seq ?_
    refine Xg.at_block ?_
    refine Xg.at_seq ?_
    refine Xg.at_region ?_
    refine Xg.ops_op (by kernel_rfl) (Xg.opx_pure ((Value.agg #[Value.int IntKind.i64 (65286 : Int), Value.func (Fn.func (52 : Nat)) #[] #[], Value.func (Fn.func (53 : Nat)) #[] #[]])) rfl (fun _ => by kernel_rfl) ?_)
    refine Xg.ops_op (by kernel_rfl) (Xg.opx_new 3 [Value.int IntKind.i64 (0 : Int), Value.nilFunc, Value.nilFunc] (by kernel_rfl) (by kernel_rfl) fun xb7 => ?_)
    refine Xg.ops_op (by kernel_rfl) (Xg.opx_storen 3 (off := 0) 0 [Value.int IntKind.i64 (65286 : Int), Value.func (Fn.func (52 : Nat)) #[] #[], Value.func (Fn.func (53 : Nat)) #[] #[]] (by kernel_rfl) rfl (by kernel_rfl) (by kernel_rfl) rfl (by kernel_rfl) (Nat.le_of_ble_eq_true (by kernel_rfl)) ?_)
    refine Xg.ops_nil ?_
    refine Xg.at_seq ?_
    refine Xg.at_region ?_
    refine Xg.ops_op (by kernel_rfl) (Xg.opx_pure ((Value.pointer (some (Addr.mk xb7 (0 : Nat) none)))) rfl (fun _ => by kernel_rfl) ?_)
    refine Xg.ops_op (by kernel_rfl) (Xg.opx_load (b := xb7) (off := ((0 : Nat))) 0 (Value.int IntKind.i64 (65286 : Int)) rfl (by kernel_rfl) (by kernel_rfl) (by kernel_rfl) ?_)
    refine Xg.ops_op (by kernel_rfl) (Xg.opx_pure ((Value.int IntKind.i64 (65286 : Int))) rfl (fun _ => by kernel_rfl) ?_)
    refine Xg.ops_op (by kernel_rfl) (Xg.opx_pure ((Value.bool true)) rfl (fun _ => by kernel_rfl) ?_)
    refine Xg.ops_nil ?_
    refine Xg.at_true (t := true) (by kernel_rfl) rfl ?_
    refine Xg.at_seq ?_
    refine Xg.at_region ?_
    refine Xg.ops_op (by kernel_rfl) (Xg.opx_pure ((Value.pointer (some (Addr.mk xb7 (1 : Nat) none)))) rfl (fun _ => by kernel_rfl) ?_)
    refine Xg.ops_op (by kernel_rfl) (Xg.opx_loadn (off := 1) 2 0 [Value.func (Fn.func (52 : Nat)) #[] #[], Value.func (Fn.func (53 : Nat)) #[] #[]] (by kernel_rfl) rfl (by kernel_rfl) rfl (Xg.cells_at (by kernel_rfl)) (by kernel_rfl) ?_)
    refine Xg.ops_op (by kernel_rfl) (Xg.opx_storen 2 (off := 0) 6 [Value.func (Fn.func (52 : Nat)) #[] #[], Value.func (Fn.func (53 : Nat)) #[] #[]] (by kernel_rfl) rfl (by kernel_rfl) (by kernel_rfl) rfl (by kernel_rfl) (Nat.le_of_ble_eq_true (by kernel_rfl)) ?_)
    refine Xg.ops_op (by kernel_rfl) (Xg.opx_pure ((Value.bool true)) rfl (fun _ => by kernel_rfl) ?_)
    refine Xg.ops_nil ?_
    refine Xg.at_ret_feed (v := (Value.tuple #[Value.agg #[Value.func (Fn.func (52 : Nat)) #[] #[], Value.func (Fn.func (53 : Nat)) #[] #[]], Value.bool true])) [(Addr.mk xb1 (0 : Nat) none), (Addr.mk xb1 (1 : Nat) none)] [Value.func (Fn.func (52 : Nat)) #[] #[], Value.func (Fn.func (53 : Nat)) #[] #[]] [] [] Go.Proofs.Tryd.func29 (by kernel_rfl) (Xg.cells_cons (b := xb1) (off := 0) 6 rfl (by kernel_rfl) (Xg.cells_cons (b := xb1) (off := 1) 6 rfl (by kernel_rfl) Xg.cells_nil)) (by kernel_rfl) (by kernel_rfl) ?_
    exact ⟨by kernel_rfl, by kernel_rfl⟩)

theorem table_control : Does Tryd.prog 29 [.int .i64 65287] [] (Ret (.tuple #[.agg #[.func (.func 54) #[] #[], .func (.func 55) #[] #[]], .bool true]) []) := by
  (focus
    refine Xg.spec_of Go.Proofs.Tryd.func29 rfl Go.Proofs.Tryd.ntmps29 fun g F => ?_)
  (focus
    refine Xg.at_seq ?_
    refine Xg.at_region ?_
    refine Xg.ops_op (by kernel_rfl) (Xg.opx_new 2 [Value.nilFunc, Value.nilFunc] (by kernel_rfl) (by kernel_rfl) fun xb1 => ?_)
    refine Xg.ops_op (by kernel_rfl) (Xg.opx_pure ((Value.bool false)) rfl (fun _ => by kernel_rfl) ?_)
    refine Xg.ops_nil ?_
    refine Xg.at_seq ?_
    refine Xg.at_seq ?_
    refine Xg.at_region ?_
    refine Xg.ops_op (by kernel_rfl) (Xg.opx_pure ((Value.agg #[Value.func (Fn.func (42 : Nat)) #[] #[], Value.func (Fn.func (43 : Nat)) #[] #[]])) rfl (fun _ => by kernel_rfl) ?_)
    refine Xg.ops_op (by kernel_rfl) (Xg.opx_pure ((Value.agg #[Value.int IntKind.i64 (65280 : Int), Value.func (Fn.func (42 : Nat)) #[] #[], Value.func (Fn.func (43 : Nat)) #[] #[]])) rfl (fun _ => by kernel_rfl) ?_)
    refine Xg.ops_op (by kernel_rfl) (Xg.opx_pure ((Value.agg #[Value.func (Fn.func (44 : Nat)) #[] #[], Value.func (Fn.func (45 : Nat)) #[] #[]])) rfl (fun _ => by kernel_rfl) ?_)
    refine Xg.ops_op (by kernel_rfl) (Xg.opx_pure ((Value.agg #[Value.int IntKind.i64 (65281 : Int), Value.func (Fn.func (44 : Nat)) #[] #[], Value.func (Fn.func (45 : Nat)) #[] #[]])) rfl (fun _ => by kernel_rfl) ?_)
    refine Xg.ops_op (by kernel_rfl) (Xg.opx_pure ((Value.agg #[Value.func (Fn.func (46 : Nat)) #[] #[], Value.func (Fn.func (47 : Nat)) #[] #[]])) rfl (fun _ => by kernel_rfl) ?_)
    refine Xg.ops_op (by kernel_rfl) (Xg.opx_pure ((Value.agg #[Value.int IntKind.i64 (65282 : Int), Value.func (Fn.func (46 : Nat)) #[] #[], Value.func (Fn.func (47 : Nat)) #[] #[]])) rfl (fun _ => by kernel_rfl) ?_)
    refine Xg.ops_op (by kernel_rfl) (Xg.opx_pure ((Value.agg #[Value.func (Fn.func (48 : Nat)) #[] #[], Value.func (Fn.func (49 : Nat)) #[] #[]])) rfl (fun _ => by kernel_rfl) ?_)
    refine Xg.ops_op (by kernel_rfl) (Xg.opx_pure ((Value.agg #[Value.int IntKind.i64 (65284 : Int), Value.func (Fn.func (48 : Nat)) #[] #[], Value.func (Fn.func (49 : Nat)) #[] #[]])) rfl (fun _ => by kernel_rfl) ?_)
    refine Xg.ops_op (by kernel_rfl) (Xg.opx_pure ((Value.agg #[Value.func (Fn.func (50 : Nat)) #[] #[], Value.func (Fn.func (51 : Nat)) #[] #[]])) rfl (fun _ => by kernel_rfl) ?_)
    refine Xg.ops_op (by kernel_rfl) (Xg.opx_pure ((Value.agg #[Value.int IntKind.i64 (65285 : Int), Value.func (Fn.func (50 : Nat)) #[] #[], Value.func (Fn.func (51 : Nat)) #[] #[]])) rfl (fun _ => by kernel_rfl) ?_)
    refine Xg.ops_op (by kernel_rfl) (Xg.opx_pure ((Value.agg #[Value.func (Fn.func (52 : Nat)) #[] #[], Value.func (Fn.func (53 : Nat)) #[] #[]])) rfl (fun _ => by kernel_rfl) ?_)
    refine Xg.ops_op (by kernel_rfl) (Xg.opx_pure ((Value.agg #[Value.int IntKind.i64 (65286 : Int), Value.func (Fn.func (52 : Nat)) #[] #[], Value.func (Fn.func (53 : Nat)) #[] #[]])) rfl (fun _ => by kernel_rfl) ?_)
    refine Xg.ops_op (by kernel_rfl) (Xg.opx_pure ((Value.agg #[Value.func (Fn.func (54 : Nat)) #[] #[], Value.func (Fn.func (55 : Nat)) #[] #[]])) rfl (fun _ => by kernel_rfl) ?_)
    refine Xg.ops_op (by kernel_rfl) (Xg.opx_pure ((Value.agg #[Value.int IntKind.i64 (65287 : Int), Value.func (Fn.func (54 : Nat)) #[] #[], Value.func (Fn.func (55 : Nat)) #[] #[]])) rfl (fun _ => by kernel_rfl) ?_)
    refine Xg.ops_op (by kernel_rfl) (Xg.opx_pure ((Value.agg #[Value.func (Fn.func (56 : Nat)) #[] #[], Value.func (Fn.func (57 : Nat)) #[] #[]])) rfl (fun _ => by kernel_rfl) ?_)
    refine Xg.ops_op (by kernel_rfl) (Xg.opx_pure ((Value.agg #[Value.int IntKind.i64 (65295 : Int), Value.func (Fn.func (56 : Nat)) #[] #[], Value.func (Fn.func (57 : Nat)) #[] #[]])) rfl (fun _ => by kernel_rfl) ?_)
    refine Xg.ops_op (by kernel_rfl) (Xg.opx_pure ((Value.agg #[Value.int IntKind.i64 (65280 : Int), Value.func (Fn.func (42 : Nat)) #[] #[], Value.func (Fn.func (43 : Nat)) #[] #[], Value.int IntKind.i64 (65281 : Int), Value.func (Fn.func (44 : Nat)) #[] #[], Value.func (Fn.func (45 : Nat)) #[] #[], Value.int IntKind.i64 (65282 : Int), Value.func (Fn.func (46 : Nat)) #[] #[], Value.func (Fn.func (47 : Nat)) #[] #[], Value.int IntKind.i64 (65284 : Int), Value.func (Fn.func (48 : Nat)) #[] #[], Value.func (Fn.func (49 : Nat)) #[] #[], Value.int IntKind.i64 (65285 : Int), Value.func (Fn.func (50 : Nat)) #[] #[], Value.func (Fn.func (51 : Nat)) #[] #[], Value.int IntKind.i64 (65286 : Int), Value.func (Fn.func (52 : Nat)) #[] #[], Value.func (Fn.func (53 : Nat)) #[] #[], Value.int IntKind.i64 (65287 : Int), Value.func (Fn.func (54 : Nat)) #[] #[], Value.func (Fn.func (55 : Nat)) #[] #[], Value.int IntKind.i64 (65295 : Int), Value.func (Fn.func (56 : Nat)) #[] #[], Value.func (Fn.func (57 : Nat)) #[] #[]])) rfl (fun _ => by kernel_rfl) ?_)
    refine Xg.ops_op (by kernel_rfl) (Xg.opx_pure ((Value.int IntKind.i64 (0 : Int))) rfl (fun _ => by kernel_rfl) ?_)
    refine Xg.ops_nil ?_
    refine Xg.at_block ?_
    refine Xg.at_loop ?_
    refine Xg.at_seq ?_
    refine Xg.at_region ?_
    refine Xg.ops_op (by kernel_rfl) (Xg.opx_pure ((Value.bool true)) rfl (fun _ => by kernel_rfl) ?_)
    refine Xg.ops_nil ?_
    refine Xg.at_seq ?_
    refine Xg.at_true (t := true) (by kernel_rfl) rfl ?_
    refine Xg.at_skip ?_
    refine Xg.at_seq ?_
    refine Xg.at_block ?_
    refine Xg.at_seq ?_
    refine Xg.at_region ?_
    refine Xg.ops_op (by kernel_rfl) (Xg.opx_pure ((Value.agg #[Value.int IntKind.i64 (65280 : Int), Value.func (Fn.func (42 : Nat)) #[] #[], Value.func (Fn.func (43 : Nat)) #[] #[]])) rfl (fun _ => by kernel_rfl) ?_)
    refine Xg.ops_op (by kernel_rfl) (Xg.opx_new 3 [Value.int IntKind.i64 (0 : Int), Value.nilFunc, Value.nilFunc] (by kernel_rfl) (by kernel_rfl) fun xb2 => ?_)
    refine Xg.ops_op (by kernel_rfl) (Xg.opx_storen 3 (off := 0) 0 [Value.int IntKind.i64 (65280 : Int), Value.func (Fn.func (42 : Nat)) #[] #[], Value.func (Fn.func (43 : Nat)) #[] #[]] (by kernel_rfl) rfl (by kernel_rfl) (by kernel_rfl) rfl (by kernel_rfl) (Nat.le_of_ble_eq_true (by kernel_rfl)) ?_)
    refine Xg.ops_nil ?_
    refine Xg.at_seq ?_
    refine Xg.at_region ?_
    refine Xg.ops_op (by kernel_rfl) (Xg.opx_pure ((Value.pointer (some (Addr.mk xb2 (0 : Nat) none)))) rfl (fun _ => by kernel_rfl) ?_)
    refine Xg.ops_op (by kernel_rfl) (Xg.opx_load (b := xb2) (off := ((0 : Nat))) 0 (Value.int IntKind.i64 (65280 : Int)) rfl (by kernel_rfl) (by kernel_rfl) (by kernel_rfl) ?_)
    refine Xg.ops_op (by kernel_rfl) (Xg.opx_pure ((Value.int IntKind.i64 (65287 : Int))) rfl (fun _ => by kernel_rfl) ?_)
    refine Xg.ops_op (by kernel_rfl) (Xg.opx_pure ((Value.bool false)) rfl (fun _ => by kernel_rfl) ?_)
    refine Xg.ops_nil ?_
    refine Xg.at_false (t := false) (by kernel_rfl) rfl ?_
    refine Xg.at_skip ?_
    refine Xg.at_inBlock ?_
    refine Xg.at_region ?_
    refine Xg.ops_op (by kernel_rfl) (Xg.opx_pure ((Value.int IntKind.i64 (1 : Int))) rfl (fun _ => by kernel_rfl) ?_)
    refine Xg.ops_op (by kernel_rfl) (Xg.opx_pure ((Value.int IntKind.i64 (1 : Int))) rfl (fun _ => by kernel_rfl) ?_)
    refine Xg.ops_nil ?_
    refine Xg.at_inLoop ?_
    refine Xg.at_seq ?_
    refine Xg.at_region ?_
    refine Xg.ops_op (by kernel_rfl) (Xg.opx_pure ((Value.bool true)) rfl (fun _ => by kernel_rfl) ?_)
    refine Xg.ops_nil ?_
    refine Xg.at_seq ?_
    refine Xg.at_true (t := true) (by kernel_rfl) rfl ?_
    refine Xg.at_skip ?_
    refine Xg.at_seq ?_
    refine Xg.at_block ?_
    refine Xg.at_seq ?_
    refine Xg.at_region ?_
    refine Xg.ops_op (by kernel_rfl) (Xg.opx_pure ((Value.agg #[Value.int IntKind.i64 (65281 : Int), Value.func (Fn.func (44 : Nat)) #[] #[], Value.func (Fn.func (45 : Nat)) #[] #[]])) rfl (fun _ => by kernel_rfl) ?_)
    refine Xg.ops_op (by kernel_rfl) (Xg.opx_new 3 [Value.int IntKind.i64 (0 : Int), Value.nilFunc, Value.nilFunc] (by kernel_rfl) (by kernel_rfl) fun xb3 => ?_)
    refine Xg.ops_op (by kernel_rfl) (Xg.opx_storen 3 (off := 0) 0 [Value.int IntKind.i64 (65281 : Int), Value.func (Fn.func (44 : Nat)) #[] #[], Value.func (Fn.func (45 : Nat)) #[] #[]] (by kernel_rfl) rfl (by kernel_rfl) (by kernel_rfl) rfl (by kernel_rfl) (Nat.le_of_ble_eq_true (by kernel_rfl)) ?_)
    refine Xg.ops_nil ?_
    refine Xg.at_seq ?_
    refine Xg.at_region ?_
    refine Xg.ops_op (by kernel_rfl) (Xg.opx_pure ((Value.pointer (some (Addr.mk xb3 (0 : Nat) none)))) rfl (fun _ => by kernel_rfl) ?_)
    refine Xg.ops_op (by kernel_rfl) (Xg.opx_load (b := xb3) (off := ((0 : Nat))) 0 (Value.int IntKind.i64 (65281 : Int)) rfl (by kernel_rfl) (by kernel_rfl) (by kernel_rfl) ?_)
    refine Xg.ops_op (by kernel_rfl) (Xg.opx_pure ((Value.int IntKind.i64 (65287 : Int))) rfl (fun _ => by kernel_rfl) ?_)
    refine Xg.ops_op (by kernel_rfl) (Xg.opx_pure ((Value.bool false)) rfl (fun _ => by kernel_rfl) ?_)
    refine Xg.ops_nil ?_
    refine Xg.at_false (t := false) (by kernel_rfl) rfl ?_
    refine Xg.at_skip ?_
    refine Xg.at_inBlock ?_
    refine Xg.at_region ?_
    refine Xg.ops_op (by kernel_rfl) (Xg.opx_pure ((Value.int IntKind.i64 (2 : Int))) rfl (fun _ => by kernel_rfl) ?_)
    refine Xg.ops_op (by kernel_rfl) (Xg.opx_pure ((Value.int IntKind.i64 (2 : Int))) rfl (fun _ => by kernel_rfl) ?_)
    refine Xg.ops_nil ?_
    refine Xg.at_inLoop ?_
    refine Xg.at_seq ?_
    refine Xg.at_region ?_
    refine Xg.ops_op (by kernel_rfl) (Xg.opx_pure ((Value.bool true)) rfl (fun _ => by kernel_rfl) ?_)
    refine Xg.ops_nil ?_
    refine Xg.at_seq ?_
    refine Xg.at_true (t := true) (by kernel_rfl) rfl ?_
    refine Xg.at_skip ?_
    refine Xg.at_seq ?_
    refine Xg.at_block ?_
    refine Xg.at_seq ?_
    refine Xg.at_region ?_
    refine Xg.ops_op (by kernel_rfl) (Xg.opx_pure ((Value.agg #[Value.int IntKind.i64 (65282 : Int), Value.func (Fn.func (46 : Nat)) #[] #[], Value.func (Fn.func (47 : Nat)) #[] #[]])) rfl (fun _ => by kernel_rfl) ?_)
    refine Xg.ops_op (by kernel_rfl) (Xg.opx_new 3 [Value.int IntKind.i64 (0 : Int), Value.nilFunc, Value.nilFunc] (by kernel_rfl) (by kernel_rfl) fun xb4 => ?_)
    refine Xg.ops_op (by kernel_rfl) (Xg.opx_storen 3 (off := 0) 0 [Value.int IntKind.i64 (65282 : Int), Value.func (Fn.func (46 : Nat)) #[] #[], Value.func (Fn.func (47 : Nat)) #[] #[]] (by kernel_rfl) rfl (by kernel_rfl) (by kernel_rfl) rfl (by kernel_rfl) (Nat.le_of_ble_eq_true (by kernel_rfl)) ?_)
    refine Xg.ops_nil ?_
    refine Xg.at_seq ?_
    refine Xg.at_region ?_
    refine Xg.ops_op (by kernel_rfl) (Xg.opx_pure ((Value.pointer (some (Addr.mk xb4 (0 : Nat) none)))) rfl (fun _ => by kernel_rfl) ?_)
    refine Xg.ops_op (by kernel_rfl) (Xg.opx_load (b := xb4) (off := ((0 : Nat))) 0 (Value.int IntKind.i64 (65282 : Int)) rfl (by kernel_rfl) (by kernel_rfl) (by kernel_rfl) ?_)
    refine Xg.ops_op (by kernel_rfl) (Xg.opx_pure ((Value.int IntKind.i64 (65287 : Int))) rfl (fun _ => by kernel_rfl) ?_)
    refine Xg.ops_op (by kernel_rfl) (Xg.opx_pure ((Value.bool false)) rfl (fun _ => by kernel_rfl) ?_)
    refine Xg.ops_nil ?_
    refine Xg.at_false (t := false) (by kernel_rfl) rfl ?_
    refine Xg.at_skip ?_
    refine Xg.at_inBlock ?_
    refine Xg.at_region ?_
    refine Xg.ops_op (by kernel_rfl) (Xg.opx_pure ((Value.int IntKind.i64 (3 : Int))) rfl (fun _ => by kernel_rfl) ?_)
    refine Xg.ops_op (by kernel_rfl) (Xg.opx_pure ((Value.int IntKind.i64 (3 : Int))) rfl (fun _ => by kernel_rfl) ?_)
    refine Xg.ops_nil ?_
    refine Xg.at_inLoop ?_
    refine Xg.at_seq ?_
    refine Xg.at_region ?_
    refine Xg.ops_op (by kernel_rfl) (Xg.opx_pure ((Value.bool true)) rfl (fun _ => by kernel_rfl) ?_)
    refine Xg.ops_nil ?_
    refine Xg.at_seq ?_
    refine Xg.at_true (t := true) (by kernel_rfl) rfl ?_
    refine Xg.at_skip ?_
    refine Xg.at_seq ?_
    refine Xg.at_block ?_
    refine Xg.at_seq ?_
    refine Xg.at_region ?_
    refine Xg.ops_op (by kernel_rfl) (Xg.opx_pure ((Value.agg #[Value.int IntKind.i64 (65284 : Int), Value.func (Fn.func (48 : Nat)) #[] #[], Value.func (Fn.func (49 : Nat)) #[] #[]])) rfl (fun _ => by kernel_rfl) ?_)
    refine Xg.ops_op (by kernel_rfl) (Xg.opx_new 3 [Value.int IntKind.i64 (0 : Int), Value.nilFunc, Value.nilFunc] (by kernel_rfl) (by kernel_rfl) fun xb5 => ?_)
    refine Xg.ops_op (by kernel_rfl) (Xg.opx_storen 3 (off := 0) 0 [Value.int IntKind.i64 (65284 : Int), Value.func (Fn.func (48 : Nat)) #[] #[], Value.func (Fn.func (49 : Nat)) #[] #[]] (by kernel_rfl) rfl (by kernel_rfl) (by kernel_rfl) rfl (by kernel_rfl) (Nat.le_of_ble_eq_true (by kernel_rfl)) ?_)
    refine Xg.ops_nil ?_
    refine Xg.at_seq ?_
    refine Xg.at_region ?_
    refine Xg.ops_op (by kernel_rfl) (Xg.opx_pure ((Value.pointer (some (Addr.mk xb5 (0 : Nat) none)))) rfl (fun _ => by kernel_rfl) ?_)
    refine Xg.ops_op (by kernel_rfl) (Xg.opx_load (b := xb5) (off := ((0 : Nat))) 0 (Value.int IntKind.i64 (65284 : Int)) rfl (by kernel_rfl) (by kernel_rfl) (by kernel_rfl) ?_)
    refine Xg.ops_op (by kernel_rfl) (Xg.opx_pure ((Value.int IntKind.i64 (65287 : Int))) rfl (fun _ => by kernel_rfl) ?_)
    refine Xg.ops_op (by kernel_rfl) (Xg.opx_pure ((Value.bool false)) rfl (fun _ => by kernel_rfl) ?_)
    refine Xg.ops_nil ?_
    refine Xg.at_false (t := false) (by kernel_rfl) rfl ?_
    refine Xg.at_skip ?_
    refine Xg.at_inBlock ?_
    refine Xg.at_region ?_
    refine Xg.ops_op (by kernel_rfl) (Xg.opx_pure ((Value.int IntKind.i64 (4 : Int))) rfl (fun _ => by kernel_rfl) ?_)
    refine Xg.ops_op (by kernel_rfl) (Xg.opx_pure ((Value.int IntKind.i64 (4 : Int))) rfl (fun _ => by kernel_rfl) ?_)
    refine Xg.ops_nil ?_
    refine Xg.at_inLoop ?_
    refine Xg.at_seq ?_
    refine Xg.at_region ?_
    refine Xg.ops_op (by kernel_rfl) (Xg.opx_pure ((Value.bool true)) rfl (fun _ => by kernel_rfl) ?_)
    refine Xg.ops_nil ?_
    refine Xg.at_seq ?_
    refine Xg.at_true (t := true) (by kernel_rfl) rfl ?_
    refine Xg.at_skip ?_
    refine Xg.at_seq ?_
    refine Xg.at_block ?_
    refine Xg.at_seq ?_
    refine Xg.at_region ?_
    refine Xg.ops_op (by kernel_rfl) (Xg.opx_pure ((Value.agg #[Value.int IntKind.i64 (65285 : Int), Value.func (Fn.func (50 : Nat)) #[] #[], Value.func (Fn.func (51 : Nat)) #[] #[]])) rfl (fun _ => by kernel_rfl) ?_)
    refine Xg.ops_op (by kernel_rfl) (Xg.opx_new 3 [Value.int IntKind.i64 (0 : Int), Value.nilFunc, Value.nilFunc] (by kernel_rfl) (by kernel_rfl) fun xb6 => ?_)
    refine Xg.ops_op (by kernel_rfl) (Xg.opx_storen 3 (off := 0) 0 [Value.int IntKind.i64 (65285 : Int), Value.func (Fn.func (50 : Nat)) #[] #[], Value.func (Fn.func (51 : Nat)) #[] #[]] (by kernel_rfl) rfl (by kernel_rfl) (by kernel_rfl) rfl (by kernel_rfl) (Nat.le_of_ble_eq_true (by kernel_rfl)) ?_)
    refine Xg.ops_nil ?_
    refine Xg.at_seq ?_
    refine Xg.at_region ?_
    refine Xg.ops_op (by kernel_rfl) (Xg.opx_pure ((Value.pointer (some (Addr.mk xb6 (0 : Nat) none)))) rfl (fun _ => by kernel_rfl) ?_)
    refine Xg.ops_op (by kernel_rfl) (Xg.opx_load (b := xb6) (off := ((0 : Nat))) 0 (Value.int IntKind.i64 (65285 : Int)) rfl (by kernel_rfl) (by kernel_rfl) (by kernel_rfl) ?_)
    refine Xg.ops_op (by kernel_rfl) (Xg.opx_pure ((Value.int IntKind.i64 (65287 : Int))) rfl (fun _ => by kernel_rfl) ?_)
    refine Xg.ops_op (by kernel_rfl) (Xg.opx_pure ((Value.bool false)) rfl (fun _ => by kernel_rfl) ?_)
    refine Xg.ops_nil ?_
    refine Xg.at_false (t := false) (by kernel_rfl) rfl ?_
    refine Xg.at_skip ?_
    refine Xg.at_inBlock ?_
    refine Xg.at_region ?_
    refine Xg.ops_op (by kernel_rfl) (Xg.opx_pure ((Value.int IntKind.i64 (5 : Int))) rfl (fun _ => by kernel_rfl) ?_)
    refine Xg.ops_op (by kernel_rfl) (Xg.opx_pure ((Value.int IntKind.i64 (5 : Int))) rfl (fun _ => by kernel_rfl) ?_)
    refine Xg.ops_nil ?_
    refine Xg.at_inLoop ?_
    refine Xg.at_seq ?_
    refine Xg.at_region ?_
    refine Xg.ops_op (by kernel_rfl) (Xg.opx_pure ((Value.bool true)) rfl (fun _ => by kernel_rfl) ?_)
    refine Xg.ops_nil ?_
    refine Xg.at_seq ?_
    refine Xg.at_true (t := true) (by kernel_rfl) rfl ?_
    refine Xg.at_skip ?_
    refine Xg.at_seq ?_
    refine Xg.at_block ?_
    refine Xg.at_seq ?_
    refine Xg.at_region ?_
    refine Xg.ops_op (by kernel_rfl) (Xg.opx_pure ((Value.agg #[Value.int IntKind.i64 (65286 : Int), Value.func (Fn.func (52 : Nat)) #[] #[], Value.func (Fn.func (53 : Nat)) #[] #[]])) rfl (fun _ => by kernel_rfl) ?_)
    refine Xg.ops_op (by kernel_rfl) (Xg.opx_new 3 [Value.int IntKind.i64 (0 : Int), Value.nilFunc, Value.nilFunc] (by kernel_rfl) (by kernel_rfl) fun xb7 => ?_)
    refine Xg.ops_op (by kernel_rfl) (Xg.opx_storen 3 (off := 0) 0 [Value.int IntKind.i64 (65286 : Int), Value.func (Fn.func (52 : Nat)) #[] #[], Value.func (Fn.func (53 : Nat)) #[] #[]] (by kernel_rfl) rfl (by kernel_rfl) (by kernel_rfl) rfl (by kernel_rfl) (Nat.le_of_ble_eq_true (by kernel_rfl)) ?_)
    refine Xg.ops_nil ?_
    refine Xg.at_seq ?_
    refine Xg.at_region ?_
    refine Xg.ops_op (by kernel_rfl) (Xg.opx_pure ((Value.pointer (some (Addr.mk xb7 (0 : Nat) none)))) rfl (fun _ => by kernel_rfl) ?_)
    refine Xg.ops_op (by kernel_rfl) (Xg.opx_load (b := xb7) (off := ((0 : Nat))) 0 (Value.int IntKind.i64 (65286 : Int)) rfl (by kernel_rfl) (by kernel_rfl) (by kernel_rfl) ?_)
    refine Xg.ops_op (by kernel_rfl) (Xg.opx_pure ((Value.int IntKind.i64 (65287 : Int))) rfl (fun _ => by kernel_rfl) ?_)
    refine Xg.ops_op (by kernel_rfl) (Xg.opx_pure ((Value.bool false)) rfl (fun _ => by kernel_rfl) ?_)
    refine Xg.ops_nil ?_
    refine Xg.at_false (t := false) (by kernel_rfl) rfl ?_
    refine Xg.at_skip ?_
    refine Xg.at_inBlock ?_
    refine Xg.at_region ?_
    refine Xg.ops_op (by kernel_rfl) (Xg.opx_pure ((Value.int IntKind.i64 (6 : Int))) rfl (fun _ => by kernel_rfl) ?_)
    refine Xg.ops_op (by kernel_rfl) (Xg.opx_pure ((Value.int IntKind.i64 (6 : Int))) rfl (fun _ => by kernel_rfl) ?_)
    refine Xg.ops_nil ?_
    refine Xg.at_inLoop ?_
    refine Xg.at_seq ?_
    refine Xg.at_region ?_
    refine Xg.ops_op (by kernel_rfl) (Xg.opx_pure ((Value.bool true)) rfl (fun _ => by kernel_rfl) ?_)
    refine Xg.ops_nil ?_
    refine Xg.at_seq ?_
    refine Xg.at_true (t := true) (by kernel_rfl) rfl ?_
    refine Xg.at_skip ?_
    refine Xg.at_seq ?_
    refine Xg.at_block ?_
    refine Xg.at_seq ?_
    refine Xg.at_region ?_
    refine Xg.ops_op (by kernel_rfl) (Xg.opx_pure ((Value.agg #[Value.int IntKind.i64 (65287 : Int), Value.func (Fn.func (54 : Nat)) #[] #[], Value.func (Fn.func (55 : Nat)) #[] #[]])) rfl (fun _ => by kernel_rfl) ?_)
    refine Xg.ops_op (by kernel_rfl) (Xg.opx_new 3 [Value.int IntKind.i64 (0 : Int), Value.nilFunc, Value.nilFunc] (by kernel_rfl) (by kernel_rfl) fun xb8 => ?_)
    refine Xg.ops_op (by kernel_rfl) (Xg.opx_storen 3 (off := 0) 0 [Value.int IntKind.i64 (65287 : Int), Value.func (Fn.func (54 : Nat)) #[] #[], Value.func (Fn.func (55 : Nat)) #[] #[]] (by kernel_rfl) rfl (by kernel_rfl) (by kernel_rfl) rfl (by kernel_rfl) (Nat.le_of_ble_eq_true (by kernel_rfl)) ?_)
    refine Xg.ops_nil ?_
    refine Xg.at_seq ?_
    refine Xg.at_region ?_
    refine Xg.ops_op (by kernel_rfl) (Xg.opx_pure ((Value.pointer (some (Addr.mk xb8 (0 : Nat) none)))) rfl (fun _ => by kernel_rfl) ?_)
    refine Xg.ops_op (by kernel_rfl) (Xg.opx_load (b := xb8) (off := ((0 : Nat))) 0 (Value.int IntKind.i64 (65287 : Int)) rfl (by kernel_rfl) (by kernel_rfl) (by kernel_rfl) ?_)
    refine Xg.ops_op (by kernel_rfl) (Xg.opx_pure ((Value.int IntKind.i64 (65287 : Int))) rfl (fun _ => by kernel_rfl) ?_)
    refine Xg.ops_op (by kernel_rfl) (Xg.opx_pure ((Value.bool true)) rfl (fun _ => by kernel_rfl) ?_)
    refine Xg.ops_nil ?_
    refine Xg.at_true (t := true) (by kernel_rfl) rfl ?_
    refine Xg.at_seq ?_
    refine Xg.at_region ?_
    refine Xg.ops_op (by kernel_rfl) (Xg.opx_pure ((Value.pointer (some (Addr.mk xb8 (1 : Nat) none)))) rfl (fun _ => by kernel_rfl) ?_)
    refine Xg.ops_op (by kernel_rfl) (Xg.opx_loadn (off := 1) 2 0 [Value.func (Fn.func (54 : Nat)) #[] #[], Value.func (Fn.func (55 : Nat)) #[] #[]] (by kernel_rfl) rfl (by kernel_rfl) rfl (Xg.cells_at (by kernel_rfl)) (by kernel_rfl) ?_)
    refine Xg.ops_op (by kernel_rfl) (Xg.opx_storen 2 (off := 0) 7 [Value.func (Fn.func (54 : Nat)) #[] #[], Value.func (Fn.func (55 : Nat)) #[] #[]] (by kernel_rfl) rfl (by kernel_rfl) (by kernel_rfl) rfl (by kernel_rfl) (Nat.le_of_ble_eq_true (by kernel_rfl)) ?_)
    refine Xg.ops_op (by kernel_rfl) (Xg.opx_pure ((Value.bool true)) rfl (fun _ => by kernel_rfl) ?_)
    refine Xg.ops_nil ?_
    refine Xg.at_ret_feed (v := (Value.tuple #[Value.agg #[Value.func (Fn.func (54 : Nat)) #[] #[], Value.func (Fn.func (55 : Nat)) #[] #[]], Value.bool true])) [(Addr.mk xb1 (0 : Nat) none), (Addr.mk xb1 (1 : Nat) none)] [Value.func (Fn.func (54 : Nat)) #[] #[], Value.func (Fn.func (55 : Nat)) #[] #[]] [] [] Go.Proofs.Tryd.func29 (by kernel_rfl) (Xg.cells_cons (b := xb1) (off := 0) 7 rfl (by kernel_rfl) (Xg.cells_cons (b := xb1) (off := 1) 7 rfl (by kernel_rfl) Xg.cells_nil)) (by kernel_rfl) (by kernel_rfl) ?_
    exact ⟨by kernel_rfl, by kernel_rfl⟩)

theorem table_requests : Does Tryd.prog 29 [.int .i64 65295] [] (Ret (.tuple #[.agg #[.func (.func 56) #[] #[], .func (.func 57) #[] #[]], .bool true]) []) := by
  (focus
    refine Xg.spec_of Go.Proofs.Tryd.func29 rfl Go.Proofs.Tryd.ntmps29 fun g F => ?_)
  (focus
    refine Xg.at_seq ?_
    refine Xg.at_region ?_
    refine Xg.ops_op (by kernel_rfl) (Xg.opx_new 2 [Value.nilFunc, Value.nilFunc] (by kernel_rfl) (by kernel_rfl) fun xb1 => ?_)
    refine Xg.ops_op (by kernel_rfl) (Xg.opx_pure ((Value.bool false)) rfl (fun _ => by kernel_rfl) ?_)
    refine Xg.ops_nil ?_
    refine Xg.at_seq ?_
    refine Xg.at_seq ?_
    refine Xg.at_region ?_
    refine Xg.ops_op (by kernel_rfl) (Xg.opx_pure ((Value.agg #[Value.func (Fn.func (42 : Nat)) #[] #[], Value.func (Fn.func (43 : Nat)) #[] #[]])) rfl (fun _ => by kernel_rfl) ?_)
    refine Xg.ops_op (by kernel_rfl) (Xg.opx_pure ((Value.agg #[Value.int IntKind.i64 (65280 : Int), Value.func (Fn.func (42 : Nat)) #[] #[], Value.func (Fn.func (43 : Nat)) #[] #[]])) rfl (fun _ => by kernel_rfl) ?_)
    refine Xg.ops_op (by kernel_rfl) (Xg.opx_pure ((Value.agg #[Value.func (Fn.func (44 : Nat)) #[] #[], Value.func (Fn.func (45 : Nat)) #[] #[]])) rfl (fun _ => by kernel_rfl) ?_)
    refine Xg.ops_op (by kernel_rfl) (Xg.opx_pure ((Value.agg #[Value.int IntKind.i64 (65281 : Int), Value.func (Fn.func (44 : Nat)) #[] #[], Value.func (Fn.func (45 : Nat)) #[] #[]])) rfl (fun _ => by kernel_rfl) ?_)
    refine Xg.ops_op (by kernel_rfl) (Xg.opx_pure ((Value.agg #[Value.func (Fn.func (46 : Nat)) #[] #[], Value.func (Fn.func (47 : Nat)) #[] #[]])) rfl (fun _ => by kernel_rfl) ?_)
    refine Xg.ops_op (by kernel_rfl) (Xg.opx_pure ((Value.agg #[Value.int IntKind.i64 (65282 : Int), Value.func (Fn.func (46 : Nat)) #[] #[], Value.func (Fn.func (47 : Nat)) #[] #[]])) rfl (fun _ => by kernel_rfl) ?_)
    refine Xg.ops_op (by kernel_rfl) (Xg.opx_pure ((Value.agg #[Value.func (Fn.func (48 : Nat)) #[] #[], Value.func (Fn.func (49 : Nat)) #[] #[]])) rfl (fun _ => by kernel_rfl) ?_)
    refine Xg.ops_op (by kernel_rfl) (Xg.opx_pure ((Value.agg #[Value.int IntKind.i64 (65284 : Int), Value.func (Fn.func (48 : Nat)) #[] #[], Value.func (Fn.func (49 : Nat)) #[] #[]])) rfl (fun _ => by kernel_rfl) ?_)
    refine Xg.ops_op (by kernel_rfl) (Xg.opx_pure ((Value.agg #[Value.func (Fn.func (50 : Nat)) #[] #[], Value.func (Fn.func (51 : Nat)) #[] #[]])) rfl (fun _ => by kernel_rfl) ?_)
    refine Xg.ops_op (by kernel_rfl) (Xg.opx_pure ((Value.agg #[Value.int IntKind.i64 (65285 : Int), Value.func (Fn.func (50 : Nat)) #[] #[], Value.func (Fn.func (51 : Nat)) #[] #[]])) rfl (fun _ => by kernel_rfl) ?_)
    refine Xg.ops_op (by kernel_rfl) (Xg.opx_pure ((Value.agg #[Value.func (Fn.func (52 : Nat)) #[] #[], Value.func (Fn.func (53 : Nat)) #[] #[]])) rfl (fun _ => by kernel_rfl) ?_)
    refine Xg.ops_op (by kernel_rfl) (Xg.opx_pure ((Value.agg #[Value.int IntKind.i64 (65286 : Int), Value.func (Fn.func (52 : Nat)) #[] #[], Value.func (Fn.func (53 : Nat)) #[] #[]])) rfl (fun _ => by kernel_rfl) ?_)
    refine Xg.ops_op (by kernel_rfl) (Xg.opx_pure ((Value.agg #[Value.func (Fn.func (54 : Nat)) #[] #[], Value.func (Fn.func (55 : Nat)) #[] #[]])) rfl (fun _ => by kernel_rfl) ?_)
    refine Xg.ops_op (by kernel_rfl) (Xg.opx_pure ((Value.agg #[Value.int IntKind.i64 (65287 : Int), Value.func (Fn.func (54 : Nat)) #[] #[], Value.func (Fn.func (55 : Nat)) #[] #[]])) rfl (fun _ => by kernel_rfl) ?_)
    refine Xg.ops_op (by kernel_rfl) (Xg.opx_pure ((Value.agg #[Value.func (Fn.func (56 : Nat)) #[] #[], Value.func (Fn.func (57 : Nat)) #[] #[]])) rfl (fun _ => by kernel_rfl) ?_)
    refine Xg.ops_op (by kernel_rfl) (Xg.opx_pure ((Value.agg #[Value.int IntKind.i64 (65295 : Int), Value.func (Fn.func (56 : Nat)) #[] #[], Value.func (Fn.func (57 : Nat)) #[] #[]])) rfl (fun _ => by kernel_rfl) ?_)
    refine Xg.ops_op (by kernel_rfl) (Xg.opx_pure ((Value.agg #[Value.int IntKind.i64 (65280 : Int), Value.func (Fn.func (42 : Nat)) #[] #[], Value.func (Fn.func (43 : Nat)) #[] #[], Value.int IntKind.i64 (65281 : Int), Value.func (Fn.func (44 : Nat)) #[] #[], Value.func (Fn.func (45 : Nat)) #[] #[], Value.int IntKind.i64 (65282 : Int), Value.func (Fn.func (46 : Nat)) #[] #[], Value.func (Fn.func (47 : Nat)) #[] #[], Value.int IntKind.i64 (65284 : Int), Value.func (Fn.func (48 : Nat)) #[] #[], Value.func (Fn.func (49 : Nat)) #[] #[], Value.int IntKind.i64 (65285 : Int), Value.func (Fn.func (50 : Nat)) #[] #[], Value.func (Fn.func (51 : Nat)) #[] #[], Value.int IntKind.i64 (65286 : Int), Value.func (Fn.func (52 : Nat)) #[] #[], Value.func (Fn.func (53 : Nat)) #[] #[], Value.int IntKind.i64 (65287 : Int), Value.func (Fn.func (54 : Nat)) #[] #[], Value.func (Fn.func (55 : Nat)) #[] #[], Value.int IntKind.i64 (65295 : Int), Value.func (Fn.func (56 : Nat)) #[] #[], Value.func (Fn.func (57 : Nat)) #[] #[]])) rfl (fun _ => by kernel_rfl) ?_)
    refine Xg.ops_op (by kernel_rfl) (Xg.opx_pure ((Value.int IntKind.i64 (0 : Int))) rfl (fun _ => by kernel_rfl) ?_)
    refine Xg.ops_nil ?_
    refine Xg.at_block ?_
    refine Xg.at_loop ?_
    refine Xg.at_seq ?_
    refine Xg.at_region ?_
    refine Xg.ops_op (by kernel_rfl) (Xg.opx_pure ((Value.bool true)) rfl (fun _ => by kernel_rfl) ?_)
    refine Xg.ops_nil ?_
    refine Xg.at_seq ?_
    refine Xg.at_true (t := true) (by kernel_rfl) rfl ?_
    refine Xg.at_skip ?_
    refine Xg.at_seq ?_
    refine Xg.at_block ?_
    refine Xg.at_seq ?_
    refine Xg.at_region ?_
    refine Xg.ops_op (by kernel_rfl) (Xg.opx_pure ((Value.agg #[Value.int IntKind.i64 (65280 : Int), Value.func (Fn.func (42 : Nat)) #[] #[], Value.func (Fn.func (43 : Nat)) #[] #[]])) rfl (fun _ => by kernel_rfl) ?_)
    refine Xg.ops_op (by kernel_rfl) (Xg.opx_new 3 [Value.int IntKind.i64 (0 : Int), Value.nilFunc, Value.nilFunc] (by kernel_rfl) (by kernel_rfl) fun xb2 => ?_)
    refine Xg.ops_op (by kernel_rfl) (Xg.opx_storen 3 (off := 0) 0 [Value.int IntKind.i64 (65280 : Int), Value.func (Fn.func (42 : Nat)) #[] #[], Value.func (Fn.func (43 : Nat)) #[] #[]] (by kernel_rfl) rfl (by kernel_rfl) (by kernel_rfl) rfl (by kernel_rfl) (Nat.le_of_ble_eq_true (by kernel_rfl)) ?_)
    refine Xg.ops_nil ?_
    refine Xg.at_seq ?_
    refine Xg.at_region ?_
    refine Xg.ops_op (by kernel_rfl) (Xg.opx_pure ((Value.pointer (some (Addr.mk xb2 (0 : Nat) none)))) rfl (fun _ => by kernel_rfl) ?_)
    refine Xg.ops_op (by kernel_rfl) (Xg.opx_load (b := xb2) (off := ((0 : Nat))) 0 (Value.int IntKind.i64 (65280 : Int)) rfl (by kernel_rfl) (by kernel_rfl) (by kernel_rfl) ?_)
    refine Xg.ops_op (by kernel_rfl) (Xg.opx_pure ((Value.int IntKind.i64 (65295 : Int))) rfl (fun _ => by kernel_rfl) ?_)
    refine Xg.ops_op (by kernel_rfl) (Xg.opx_pure ((Value.bool false)) rfl (fun _ => by kernel_rfl) ?_)
    refine Xg.ops_nil ?_
    refine Xg.at_false (t := false) (by kernel_rfl) rfl ?_
    refine Xg.at_skip ?_
    refine Xg.at_inBlock ?_
    refine Xg.at_region ?_
    refine Xg.ops_op (by kernel_rfl) (Xg.opx_pure ((Value.int IntKind.i64 (1 : Int))) rfl (fun _ => by kernel_rfl) ?_)
    refine Xg.ops_op (by kernel_rfl) (Xg.opx_pure ((Value.int IntKind.i64 (1 : Int))) rfl (fun _ => by kernel_rfl) ?_)
    refine Xg.ops_nil ?_
    refine Xg.at_inLoop ?_
    refine Xg.at_seq ?_
    refine Xg.at_region ?_
    refine Xg.ops_op (by kernel_rfl) (Xg.opx_pure ((Value.bool true)) rfl (fun _ => by kernel_rfl) ?_)
    refine Xg.ops_nil ?_
    refine Xg.at_seq ?_
    refine Xg.at_true (t := true) (by kernel_rfl) rfl ?_
    refine Xg.at_skip ?_
    refine Xg.at_seq ?_
    refine Xg.at_block ?_
    refine Xg.at_seq ?_
    refine Xg.at_region ?_
    refine Xg.ops_op (by kernel_rfl) (Xg.opx_pure ((Value.agg #[Value.int IntKind.i64 (65281 : Int), Value.func (Fn.func (44 : Nat)) #[] #[], Value.func (Fn.func (45 : Nat)) #[] #[]])) rfl (fun _ => by kernel_rfl) ?_)
    refine Xg.ops_op (by kernel_rfl) (Xg.opx_new 3 [Value.int IntKind.i64 (0 : Int), Value.nilFunc, Value.nilFunc] (by kernel_rfl) (by kernel_rfl) fun xb3 => ?_)
    refine Xg.ops_op (by kernel_rfl) (Xg.opx_storen 3 (off := 0) 0 [Value.int IntKind.i64 (65281 : Int), Value.func (Fn.func (44 : Nat)) #[] #[], Value.func (Fn.func (45 : Nat)) #[] #[]] (by kernel_rfl) rfl (by kernel_rfl) (by kernel_rfl) rfl (by kernel_rfl) (Nat.le_of_ble_eq_true (by kernel_rfl)) ?_)
    refine Xg.ops_nil ?_
    refine Xg.at_seq ?_
    refine Xg.at_region ?_
    refine Xg.ops_op (by kernel_rfl) (Xg.opx_pure ((Value.pointer (some (Addr.mk xb3 (0 : Nat) none)))) rfl (fun _ => by kernel_rfl) ?_)
    refine Xg.ops_op (by kernel_rfl) (Xg.opx_load (b := xb3) (off := ((0 : Nat))) 0 (Value.int IntKind.i64 (65281 : Int)) rfl (by kernel_rfl) (by kernel_rfl) (by kernel_rfl) ?_)
    refine Xg.ops_op (by kernel_rfl) (Xg.opx_pure ((Value.int IntKind.i64 (65295 : Int))) rfl (fun _ => by kernel_rfl) ?_)
    refine Xg.ops_op (by kernel_rfl) (Xg.opx_pure ((Value.bool false)) rfl (fun _ => by kernel_rfl) ?_)
    refine Xg.ops_nil ?_
    refine Xg.at_false (t := false) (by kernel_rfl) rfl ?_
    refine Xg.at_skip ?_
    refine Xg.at_inBlock ?_
    refine Xg.at_region ?_
    refine Xg.ops_op (by kernel_rfl) (Xg.opx_pure ((Value.int IntKind.i64 (2 : Int))) rfl (fun _ => by kernel_rfl) ?_)
    refine Xg.ops_op (by kernel_rfl) (Xg.opx_pure ((Value.int IntKind.i64 (2 : Int))) rfl (fun _ => by kernel_rfl) ?_)
    refine Xg.ops_nil ?_
    refine Xg.at_inLoop ?_
    refine Xg.at_seq ?_
    refine Xg.at_region ?_
    refine Xg.ops_op (by kernel_rfl) (Xg.opx_pure ((Value.bool true)) rfl (fun _ => by kernel_rfl) ?_)
    refine Xg.ops_nil ?_
    refine Xg.at_seq ?_
    refine Xg.at_true (t := true) (by kernel_rfl) rfl ?_
    refine Xg.at_skip ?_
    refine Xg.at_seq ?_
    refine Xg.at_block ?_
    refine Xg.at_seq ?_
    refine Xg.at_region ?_
    refine Xg.ops_op (by kernel_rfl) (Xg.opx_pure ((Value.agg #[Value.int IntKind.i64 (65282 : Int), Value.func (Fn.func (46 : Nat)) #[] #[], Value.func (Fn.func (47 : Nat)) #[] #[]])) rfl (fun _ => by kernel_rfl) ?_)
    refine Xg.ops_op (by kernel_rfl) (Xg.opx_new 3 [Value.int IntKind.i64 (0 : Int), Value.nilFunc, Value.nilFunc] (by kernel_rfl) (by kernel_rfl) fun xb4 => ?_)
    refine Xg.ops_op (by kernel_rfl) (Xg.opx_storen 3 (off := 0) 0 [Value.int IntKind.i64 (65282 : Int), Value.func (Fn.func (46 : Nat)) #[] #[], Value.func (Fn.func (47 : Nat)) #[] #[]] (by kernel_rfl) rfl (by kernel_rfl) (by kernel_rfl) rfl (by kernel_rfl) (Nat.le_of_ble_eq_true (by kernel_rfl)) ?_)
    refine Xg.ops_nil ?_
    refine Xg.at_seq ?_
    refine Xg.at_region ?_
    refine Xg.ops_op (by kernel_rfl) (Xg.opx_pure ((Value.pointer (some (Addr.mk xb4 (0 : Nat) none)))) rfl (fun _ => by kernel_rfl) ?_)
    refine Xg.ops_op (by kernel_rfl) (Xg.opx_load (b := xb4) (off := ((0 : Nat))) 0 (Value.int IntKind.i64 (65282 : Int)) rfl (by kernel_rfl) (by kernel_rfl) (by kernel_rfl) ?_)
    refine Xg.ops_op (by kernel_rfl) (Xg.opx_pure ((Value.int IntKind.i64 (65295 : Int))) rfl (fun _ => by kernel_rfl) ?_)
    refine Xg.ops_op (by kernel_rfl) (Xg.opx_pure ((Value.bool false)) rfl (fun _ => by kernel_rfl) ?_)
    refine Xg.ops_nil ?_
    refine Xg.at_false (t := false) (by kernel_rfl) rfl ?_
    refine Xg.at_skip ?_
    refine Xg.at_inBlock ?_
    refine Xg.at_region ?_
    refine Xg.ops_op (by kernel_rfl) (Xg.opx_pure ((Value.int IntKind.i64 (3 : Int))) rfl (fun _ => by kernel_rfl) ?_)
    refine Xg.ops_op (by kernel_rfl) (Xg.opx_pure ((Value.int IntKind.i64 (3 : Int))) rfl (fun _ => by kernel_rfl) ?_)
    refine Xg.ops_nil ?_
    refine Xg.at_inLoop ?_
    refine Xg.at_seq ?_
    refine Xg.at_region ?_
    refine Xg.ops_op (by kernel_rfl) (Xg.opx_pure ((Value.bool true)) rfl (fun _ => by kernel_rfl) ?_)
    refine Xg.ops_nil ?_
    refine Xg.at_seq ?_
    refine Xg.at_true (t := true) (by kernel_rfl) rfl ?_
    refine Xg.at_skip ?_
    refine Xg.at_seq ?_
    refine Xg.at_block ?_
    refine Xg.at_seq ?_
    refine Xg.at_region ?_
    refine Xg.ops_op (by kernel_rfl) (Xg.opx_pure ((Value.agg #[Value.int IntKind.i64 (65284 : Int), Value.func (Fn.func (48 : Nat)) #[] #[], Value.func (Fn.func (49 : Nat)) #[] #[]])) rfl (fun _ => by kernel_rfl) ?_)
    refine Xg.ops_op (by kernel_rfl) (Xg.opx_new 3 [Value.int IntKind.i64 (0 : Int), Value.nilFunc, Value.nilFunc] (by kernel_rfl) (by kernel_rfl) fun xb5 => ?_)
    refine Xg.ops_op (by kernel_rfl) (Xg.opx_storen 3 (off := 0) 0 [Value.int IntKind.i64 (65284 : Int), Value.func (Fn.func (48 : Nat)) #[] #[], Value.func (Fn.func (49 : Nat)) #[] #[]] (by kernel_rfl) rfl (by kernel_rfl) (by kernel_rfl) rfl (by kernel_rfl) (Nat.le_of_ble_eq_true (by kernel_rfl)) ?_)
    refine Xg.ops_nil ?_
    refine Xg.at_seq ?_
    refine Xg.at_region ?_
    refine Xg.ops_op (by kernel_rfl) (Xg.opx_pure ((Value.pointer (some (Addr.mk xb5 (0 : Nat) none)))) rfl (fun _ => by kernel_rfl) ?_)
    refine Xg.ops_op (by kernel_rfl) (Xg.opx_load (b := xb5) (off := ((0 : Nat))) 0 (Value.int IntKind.i64 (65284 : Int)) rfl (by kernel_rfl) (by kernel_rfl) (by kernel_rfl) ?_)
    refine Xg.ops_op (by kernel_rfl) (Xg.opx_pure ((Value.int IntKind.i64 (65295 : Int))) rfl (fun _ => by kernel_rfl) ?_)
    refine Xg.ops_op (by kernel_rfl) (Xg.opx_pure ((Value.bool false)) rfl (fun _ => by kernel_rfl) ?_)
    refine Xg.ops_nil ?_
    refine Xg.at_false (t := false) (by kernel_rfl) rfl ?_
    refine Xg.at_skip ?_
    refine Xg.at_inBlock ?_
    refine Xg.at_region ?_
    refine Xg.ops_op (by kernel_rfl) (Xg.opx_pure ((Value.int IntKind.i64 (4 : Int))) rfl (fun _ => by kernel_rfl) ?_)
    refine Xg.ops_op (by kernel_rfl) (Xg.opx_pure ((Value.int IntKind.i64 (4 : Int))) rfl (fun _ => by kernel_rfl) ?_)
    refine Xg.ops_nil ?_
    refine Xg.at_inLoop ?_
    refine Xg.at_seq ?_
    refine Xg.at_region ?_
    refine Xg.ops_op (by kernel_rfl) (Xg.opx_pure ((Value.bool true)) rfl (fun _ => by kernel_rfl) ?_)
    refine Xg.ops_nil ?_
    refine Xg.at_seq ?_
    refine Xg.at_true (t := true) (by kernel_rfl) rfl ?_
    refine Xg.at_skip ?_
    refine Xg.at_seq ?_
    refine Xg.at_block ?_
    refine Xg.at_seq ?_
    refine Xg.at_region ?_
    refine Xg.ops_op (by kernel_rfl) (Xg.opx_pure ((Value.agg #[Value.int IntKind.i64 (65285 : Int), Value.func (Fn.func (50 : Nat)) #[] #[], Value.func (Fn.func (51 : Nat)) #[] #[]])) rfl (fun _ => by kernel_rfl) ?_)
    refine Xg.ops_op (by kernel_rfl) (Xg.opx_new 3 [Value.int IntKind.i64 (0 : Int), Value.nilFunc, Value.nilFunc] (by kernel_rfl) (by kernel_rfl) fun xb6 => ?_)
    refine Xg.ops_op (by kernel_rfl) (Xg.opx_storen 3 (off := 0) 0 [Value.int IntKind.i64 (65285 : Int), Value.func (Fn.func (50 : Nat)) #[] #[], Value.func (Fn.func (51 : Nat)) #[] #[]] (by kernel_rfl) rfl (by kernel_rfl) (by kernel_rfl) rfl (by kernel_rfl) (Nat.le_of_ble_eq_true (by kernel_rfl)) ?_)
    refine Xg.ops_nil ?_
    refine Xg.at_seq ?_
    refine Xg.at_region ?_
    refine Xg.ops_op (by kernel_rfl) (Xg.opx_pure ((Value.pointer (some (Addr.mk xb6 (0 : Nat) none)))) rfl (fun _ => by kernel_rfl) ?_)
    refine Xg.ops_op (by kernel_rfl) (Xg.opx_load (b := xb6) (off := ((0 : Nat))) 0 (Value.int IntKind.i64 (65285 : Int)) rfl (by kernel_rfl) (by kernel_rfl) (by kernel_rfl) ?_)
    refine Xg.ops_op (by kernel_rfl) (Xg.opx_pure ((Value.int IntKind.i64 (65295 : Int))) rfl (fun _ => by kernel_rfl) ?_)
    refine Xg.ops_op (by kernel_rfl) (Xg.opx_pure ((Value.bool false)) rfl (fun _ => by kernel_rfl) ?_)
    refine Xg.ops_nil ?_
    refine Xg.at_false (t := false) (by kernel_rfl) rfl ?_
    refine Xg.at_skip ?_
    refine Xg.at_inBlock ?_
    refine Xg.at_region ?_
    refine Xg.ops_op (by kernel_rfl) (Xg.opx_pure ((Value.int IntKind.i64 (5 : Int))) rfl (fun _ => by kernel_rfl) ?_)
    refine Xg.ops_op (by kernel_rfl) (Xg.opx_pure ((Value.int IntKind.i64 (5 : Int))) rfl (fun _ => by kernel_rfl) ?_)
    refine Xg.ops_nil ?_
    refine Xg.at_inLoop ?_
    refine Xg.at_seq ?_
    refine Xg.at_region ?_
    refine Xg.ops_op (by kernel_rfl) (Xg.opx_pure ((Value.bool true)) rfl (fun _ => by kernel_rfl) ?_)
    refine Xg.ops_nil ?_
    refine Xg.at_seq ?_
    refine Xg.at_true (t := true) (by kernel_rfl) rfl ?_
    refine Xg.at_skip ?_
    refine Xg.at_seq ?_
    refine Xg.at_block ?_
    refine Xg.at_seq ?_
    refine Xg.at_region ?_
    refine Xg.ops_op (by kernel_rfl) (Xg.opx_pure ((Value.agg #[Value.int IntKind.i64 (65286 : Int), Value.func (Fn.func (52 : Nat)) #[] #[], Value.func (Fn.func (53 : Nat)) #[] #[]])) rfl (fun _ => by kernel_rfl) ?_)
    refine Xg.ops_op (by kernel_rfl) (Xg.opx_new 3 [Value.int IntKind.i64 (0 : Int), Value.nilFunc, Value.nilFunc] (by kernel_rfl) (by kernel_rfl) fun xb7 => ?_)
    refine Xg.ops_op (by kernel_rfl) (Xg.opx_storen 3 (off := 0) 0 [Value.int IntKind.i64 (65286 : Int), Value.func (Fn.func (52 : Nat)) #[] #[], Value.func (Fn.func (53 : Nat)) #[] #[]] (by kernel_rfl) rfl (by kernel_rfl) (by kernel_rfl) rfl (by kernel_rfl) (Nat.le_of_ble_eq_true (by kernel_rfl)) ?_)
    refine Xg.ops_nil ?_
    refine Xg.at_seq ?_
    refine Xg.at_region ?_
    refine Xg.ops_op (by kernel_rfl) (Xg.opx_pure ((Value.pointer (some (Addr.mk xb7 (0 : Nat) none)))) rfl (fun _ => by kernel_rfl) ?_)
    refine Xg.ops_op (by kernel_rfl) (Xg.opx_load (b := xb7) (off := ((0 : Nat))) 0 (Value.int IntKind.i64 (65286 : Int)) rfl (by kernel_rfl) (by kernel_rfl) (by kernel_rfl) ?_)
    refine Xg.ops_op (by kernel_rfl) (Xg.opx_pure ((Value.int IntKind.i64 (65295 : Int))) rfl (fun _ => by kernel_rfl) ?_)
    refine Xg.ops_op (by kernel_rfl) (Xg.opx_pure ((Value.bool false)) rfl (fun _ => by kernel_rfl) ?_)
    refine Xg.ops_nil ?_
    refine Xg.at_false (t := false) (by kernel_rfl) rfl ?_
    refine Xg.at_skip ?_
    refine Xg.at_inBlock ?_
    refine Xg.at_region ?_
    refine Xg.ops_op (by kernel_rfl) (Xg.opx_pure ((Value.int IntKind.i64 (6 : Int))) rfl (fun _ => by kernel_rfl) ?_)
    refine Xg.ops_op (by kernel_rfl) (Xg.opx_pure ((Value.int IntKind.i64 (6 : Int))) rfl (fun _ => by kernel_rfl) ?_)
    refine Xg.ops_nil ?_
    refine Xg.at_inLoop ?_
    refine Xg.at_seq ?_
    refine Xg.at_region ?_
    refine Xg.ops_op (by kernel_rfl) (Xg.opx_pure ((Value.bool true)) rfl (fun _ => by kernel_rfl) ?_)
    refine Xg.ops_nil ?_
    refine Xg.at_seq ?_
    refine Xg.at_true (t := true) (by kernel_rfl) rfl ?_
    refine Xg.at_skip ?_
    refine Xg.at_seq ?_
    refine Xg.at_block ?_
    refine Xg.at_seq ?_
    refine Xg.at_region ?_
    refine Xg.ops_op (by kernel_rfl) (Xg.opx_pure ((Value.agg #[Value.int IntKind.i64 (65287 : Int), Value.func (Fn.func (54 : Nat)) #[] #[], Value.func (Fn.func (55 : Nat)) #[] #[]])) rfl (fun _ => by kernel_rfl) ?_)
    refine Xg.ops_op (by kernel_rfl) (Xg.opx_new 3 [Value.int IntKind.i64 (0 : Int), Value.nilFunc, Value.nilFunc] (by kernel_rfl) (by kernel_rfl) fun xb8 => ?_)
    refine Xg.ops_op (by kernel_rfl) (Xg.opx_storen 3 (off := 0) 0 [Value.int IntKind.i64 (65287 : Int), Value.func (Fn.func (54 : Nat)) #[] #[], Value.func (Fn.func (55 : Nat)) #[] #[]] (by kernel_rfl) rfl (by kernel_rfl) (by kernel_rfl) rfl (by kernel_rfl) (Nat.le_of_ble_eq_true (by kernel_rfl)) ?_)
    refine Xg.ops_nil ?_
    refine Xg.at_seq ?_
    refine Xg.at_region ?_
    refine Xg.ops_op (by kernel_rfl) (Xg.opx_pure ((Value.pointer (some (Addr.mk xb8 (0 : Nat) none)))) rfl (fun _ => by kernel_rfl) ?_)
    refine Xg.ops_op (by kernel_rfl) (Xg.opx_load (b := xb8) (off := ((0 : Nat))) 0 (Value.int IntKind.i64 (65287 : Int)) rfl (by kernel_rfl) (by kernel_rfl) (by kernel_rfl) ?_)
    refine Xg.ops_op (by kernel_rfl) (Xg.opx_pure ((Value.int IntKind.i64 (65295 : Int))) rfl (fun _ => by kernel_rfl) ?_)
    refine Xg.ops_op (by kernel_rfl) (Xg.opx_pure ((Value.bool false)) rfl (fun _ => by kernel_rfl) ?_)
    refine Xg.ops_nil ?_
    refine Xg.at_false (t := false) (by kernel_rfl) rfl ?_
    refine Xg.at_skip ?_
    refine Xg.at_inBlock ?_
    refine Xg.at_region ?_
    refine Xg.ops_op (by kernel_rfl) (Xg.opx_pure ((Value.int IntKind.i64 (7 : Int))) rfl (fun _ => by kernel_rfl) ?_)
    refine Xg.ops_op (by kernel_rfl) (Xg.opx_pure ((Value.int IntKind.i64 (7 : Int))) rfl (fun _ => by kernel_rfl) ?_)
    refine Xg.ops_nil ?_
    refine Xg.at_inLoop ?_
    refine Xg.at_seq ?_
    refine Xg.at_region ?_
    refine Xg.ops_op (by kernel_rfl) (Xg.opx_pure ((Value.bool true)) rfl (fun _ => by kernel_rfl) ?_)
    refine Xg.ops_nil ?_
    refine Xg.at_seq ?_
    refine Xg.at_true (t := true) (by kernel_rfl) rfl ?_
    refine Xg.at_skip ?_
    refine Xg.at_seq ?_
    refine Xg.at_block ?_
    refine Xg.at_seq ?_
    refine Xg.at_region ?_
    refine Xg.ops_op (by kernel_rfl) (Xg.opx_pure ((Value.agg #[Value.int IntKind.i64 (65295 : Int), Value.func (Fn.func (56 : Nat)) #[] #[], Value.func (Fn.func (57 : Nat)) #[] #[]])) rfl (fun _ => by kernel_rfl) ?_)
    refine Xg.ops_op (by kernel_rfl) (Xg.opx_new 3 [Value.int IntKind.i64 (0 : Int), Value.nilFunc, Value.nilFunc] (by kernel_rfl) (by kernel_rfl) fun xb9 => ?_)
    refine Xg.ops_op (by kernel_rfl) (Xg.opx_storen 3 (off := 0) 0 [Value.int IntKind.i64 (65295 : Int), Value.func (Fn.func (56 : Nat)) #[] #[], Value.func (Fn.func (57 : Nat)) #[] #[]] (by kernel_rfl) rfl (by kernel_rfl) (by kernel_rfl) rfl (by kernel_rfl) (Nat.le_of_ble_eq_true (by kernel_rfl)) ?_)
    refine Xg.ops_nil ?_
    refine Xg.at_seq ?_
    refine Xg.at_region ?_
    refine Xg.ops_op (by kernel_rfl) (Xg.opx_pure ((Value.pointer (some (Addr.mk xb9 (0 : Nat) none)))) rfl (fun _ => by kernel_rfl) ?_)
    refine Xg.ops_op (by kernel_rfl) (Xg.opx_load (b := xb9) (off := ((0 : Nat))) 0 (Value.int IntKind.i64 (65295 : Int)) rfl (by kernel_rfl) (by kernel_rfl) (by kernel_rfl) ?_)
    refine Xg.ops_op (by kernel_rfl) (Xg.opx_pure ((Value.int IntKind.i64 (65295 : Int))) rfl (fun _ => by kernel_rfl) ?_)
    refine Xg.ops_op (by kernel_rfl) (Xg.opx_pure ((Value.bool true)) rfl (fun _ => by kernel_rfl) ?_)
    refine Xg.ops_nil ?_
    refine Xg.at_true (t := true) (by kernel_rfl) rfl ?_
    refine Xg.at_seq ?_
    refine Xg.at_region ?_
    refine Xg.ops_op (by kernel_rfl) (Xg.opx_pure ((Value.pointer (some (Addr.mk xb9 (1 : Nat) none)))) rfl (fun _ => by kernel_rfl) ?_)
    refine Xg.ops_op (by kernel_rfl) (Xg.opx_loadn (off := 1) 2 0 [Value.func (Fn.func (56 : Nat)) #[] #[], Value.func (Fn.func (57 : Nat)) #[] #[]] (by kernel_rfl) rfl (by kernel_rfl) rfl (Xg.cells_at (by kernel_rfl)) (by kernel_rfl) ?_)
    refine Xg.ops_op (by kernel_rfl) (Xg.opx_storen 2 (off := 0) 8 [Value.func (Fn.func (56 : Nat)) #[] #[], Value.func (Fn.func (57 : Nat)) #[] #[]] (by kernel_rfl) rfl (by kernel_rfl) (by kernel_rfl) rfl (by kernel_rfl) (Nat.le_of_ble_eq_true (by kernel_rfl)) ?_)
    refine Xg.ops_op (by kernel_rfl) (Xg.opx_pure ((Value.bool true)) rfl (fun _ => by kernel_rfl) ?_)
    refine Xg.ops_nil ?_
    refine Xg.at_ret_feed (v := (Value.tuple #[Value.agg #[Value.func (Fn.func (56 : Nat)) #[] #[], Value.func (Fn.func (57 : Nat)) #[] #[]], Value.bool true])) [(Addr.mk xb1 (0 : Nat) none), (Addr.mk xb1 (1 : Nat) none)] [Value.func (Fn.func (56 : Nat)) #[] #[], Value.func (Fn.func (57 : Nat)) #[] #[]] [] [] Go.Proofs.Tryd.func29 (by kernel_rfl) (Xg.cells_cons (b := xb1) (off := 0) 8 rfl (by kernel_rfl) (Xg.cells_cons (b := xb1) (off := 1) 8 rfl (by kernel_rfl) Xg.cells_nil)) (by kernel_rfl) (by kernel_rfl) ?_
    exact ⟨by kernel_rfl, by kernel_rfl⟩)

theorem table_none (a : Int) (h : a < 65280 ∨ a = 65283 ∨ (65287 < a ∧ a < 65295) ∨ 65295 < a) : Does Tryd.prog 29 [.int .i64 a] [] (Ret (.tuple #[.agg #[.nilFunc, .nilFunc], .bool false]) []) := by
  (focus
    refine Xg.spec_of Go.Proofs.Tryd.func29 rfl Go.Proofs.Tryd.ntmps29 fun g F => ?_)
  (focus
    refine Xg.at_seq ?_
    refine Xg.at_region ?_
    refine Xg.ops_op (by kernel_rfl) (Xg.opx_new 2 [Value.nilFunc, Value.nilFunc] (by kernel_rfl) (by kernel_rfl) fun xb1 => ?_)
    refine Xg.ops_op (by kernel_rfl) (Xg.opx_pure ((Value.bool false)) rfl (fun _ => by kernel_rfl) ?_)
    refine Xg.ops_nil ?_
    refine Xg.at_seq ?_
    refine Xg.at_seq ?_
    refine Xg.at_region ?_
    refine Xg.ops_op (by kernel_rfl) (Xg.opx_pure ((Value.agg #[Value.func (Fn.func (42 : Nat)) #[] #[], Value.func (Fn.func (43 : Nat)) #[] #[]])) rfl (fun _ => by kernel_rfl) ?_)
    refine Xg.ops_op (by kernel_rfl) (Xg.opx_pure ((Value.agg #[Value.int IntKind.i64 (65280 : Int), Value.func (Fn.func (42 : Nat)) #[] #[], Value.func (Fn.func (43 : Nat)) #[] #[]])) rfl (fun _ => by kernel_rfl) ?_)
    refine Xg.ops_op (by kernel_rfl) (Xg.opx_pure ((Value.agg #[Value.func (Fn.func (44 : Nat)) #[] #[], Value.func (Fn.func (45 : Nat)) #[] #[]])) rfl (fun _ => by kernel_rfl) ?_)
    refine Xg.ops_op (by kernel_rfl) (Xg.opx_pure ((Value.agg #[Value.int IntKind.i64 (65281 : Int), Value.func (Fn.func (44 : Nat)) #[] #[], Value.func (Fn.func (45 : Nat)) #[] #[]])) rfl (fun _ => by kernel_rfl) ?_)
    refine Xg.ops_op (by kernel_rfl) (Xg.opx_pure ((Value.agg #[Value.func (Fn.func (46 : Nat)) #[] #[], Value.func (Fn.func (47 : Nat)) #[] #[]])) rfl (fun _ => by kernel_rfl) ?_)
    refine Xg.ops_op (by kernel_rfl) (Xg.opx_pure ((Value.agg #[Value.int IntKind.i64 (65282 : Int), Value.func (Fn.func (46 : Nat)) #[] #[], Value.func (Fn.func (47 : Nat)) #[] #[]])) rfl (fun _ => by kernel_rfl) ?_)
    refine Xg.ops_op (by kernel_rfl) (Xg.opx_pure ((Value.agg #[Value.func (Fn.func (48 : Nat)) #[] #[], Value.func (Fn.func (49 : Nat)) #[] #[]])) rfl (fun _ => by kernel_rfl) ?_)
    refine Xg.ops_op (by kernel_rfl) (Xg.opx_pure ((Value.agg #[Value.int IntKind.i64 (65284 : Int), Value.func (Fn.func (48 : Nat)) #[] #[], Value.func (Fn.func (49 : Nat)) #[] #[]])) rfl (fun _ => by kernel_rfl) ?_)
    refine Xg.ops_op (by kernel_rfl) (Xg.opx_pure ((Value.agg #[Value.func (Fn.func (50 : Nat)) #[] #[], Value.func (Fn.func (51 : Nat)) #[] #[]])) rfl (fun _ => by kernel_rfl) ?_)
    refine Xg.ops_op (by kernel_rfl) (Xg.opx_pure ((Value.agg #[Value.int IntKind.i64 (65285 : Int), Value.func (Fn.func (50 : Nat)) #[] #[], Value.func (Fn.func (51 : Nat)) #[] #[]])) rfl (fun _ => by kernel_rfl) ?_)
    refine Xg.ops_op (by kernel_rfl) (Xg.opx_pure ((Value.agg #[Value.func (Fn.func (52 : Nat)) #[] #[], Value.func (Fn.func (53 : Nat)) #[] #[]])) rfl (fun _ => by kernel_rfl) ?_)
    refine Xg.ops_op (by kernel_rfl) (Xg.opx_pure ((Value.agg #[Value.int IntKind.i64 (65286 : Int), Value.func (Fn.func (52 : Nat)) #[] #[], Value.func (Fn.func (53 : Nat)) #[] #[]])) rfl (fun _ => by kernel_rfl) ?_)
    refine Xg.ops_op (by kernel_rfl) (Xg.opx_pure ((Value.agg #[Value.func (Fn.func (54 : Nat)) #[] #[], Value.func (Fn.func (55 : Nat)) #[] #[]])) rfl (fun _ => by kernel_rfl) ?_)
    refine Xg.ops_op (by kernel_rfl) (Xg.opx_pure ((Value.agg #[Value.int IntKind.i64 (65287 : Int), Value.func (Fn.func (54 : Nat)) #[] #[], Value.func (Fn.func (55 : Nat)) #[] #[]])) rfl (fun _ => by kernel_rfl) ?_)
    refine Xg.ops_op (by kernel_rfl) (Xg.opx_pure ((Value.agg #[Value.func (Fn.func (56 : Nat)) #[] #[], Value.func (Fn.func (57 : Nat)) #[] #[]])) rfl (fun _ => by kernel_rfl) ?_)
    refine Xg.ops_op (by kernel_rfl) (Xg.opx_pure ((Value.agg #[Value.int IntKind.i64 (65295 : Int), Value.func (Fn.func (56 : Nat)) #[] #[], Value.func (Fn.func (57 : Nat)) #[] #[]])) rfl (fun _ => by kernel_rfl) ?_)
    refine Xg.ops_op (by kernel_rfl) (Xg.opx_pure ((Value.agg #[Value.int IntKind.i64 (65280 : Int), Value.func (Fn.func (42 : Nat)) #[] #[], Value.func (Fn.func (43 : Nat)) #[] #[], Value.int IntKind.i64 (65281 : Int), Value.func (Fn.func (44 : Nat)) #[] #[], Value.func (Fn.func (45 : Nat)) #[] #[], Value.int IntKind.i64 (65282 : Int), Value.func (Fn.func (46 : Nat)) #[] #[], Value.func (Fn.func (47 : Nat)) #[] #[], Value.int IntKind.i64 (65284 : Int), Value.func (Fn.func (48 : Nat)) #[] #[], Value.func (Fn.func (49 : Nat)) #[] #[], Value.int IntKind.i64 (65285 : Int), Value.func (Fn.func (50 : Nat)) #[] #[], Value.func (Fn.func (51 : Nat)) #[] #[], Value.int IntKind.i64 (65286 : Int), Value.func (Fn.func (52 : Nat)) #[] #[], Value.func (Fn.func (53 : Nat)) #[] #[], Value.int IntKind.i64 (65287 : Int), Value.func (Fn.func (54 : Nat)) #[] #[], Value.func (Fn.func (55 : Nat)) #[] #[], Value.int IntKind.i64 (65295 : Int), Value.func (Fn.func (56 : Nat)) #[] #[], Value.func (Fn.func (57 : Nat)) #[] #[]])) rfl (fun _ => by kernel_rfl) ?_)
    refine Xg.ops_op (by kernel_rfl) (Xg.opx_pure ((Value.int IntKind.i64 (0 : Int))) rfl (fun _ => by kernel_rfl) ?_)
    refine Xg.ops_nil ?_
    refine Xg.at_block ?_
    refine Xg.at_loop ?_
    refine Xg.at_seq ?_
    refine Xg.at_region ?_
    refine Xg.ops_op (by kernel_rfl) (Xg.opx_pure ((Value.bool true)) rfl (fun _ => by kernel_rfl) ?_)
    refine Xg.ops_nil ?_
    refine Xg.at_seq ?_
    refine Xg.at_true (t := true) (by kernel_rfl) rfl ?_
    refine Xg.at_skip ?_
    refine Xg.at_seq ?_
    refine Xg.at_block ?_
    refine Xg.at_seq ?_
    refine Xg.at_region ?_
    refine Xg.ops_op (by kernel_rfl) (Xg.opx_pure ((Value.agg #[Value.int IntKind.i64 (65280 : Int), Value.func (Fn.func (42 : Nat)) #[] #[], Value.func (Fn.func (43 : Nat)) #[] #[]])) rfl (fun _ => by kernel_rfl) ?_)
    refine Xg.ops_op (by kernel_rfl) (Xg.opx_new 3 [Value.int IntKind.i64 (0 : Int), Value.nilFunc, Value.nilFunc] (by kernel_rfl) (by kernel_rfl) fun xb2 => ?_)
    refine Xg.ops_op (by kernel_rfl) (Xg.opx_storen 3 (off := 0) 0 [Value.int IntKind.i64 (65280 : Int), Value.func (Fn.func (42 : Nat)) #[] #[], Value.func (Fn.func (43 : Nat)) #[] #[]] (by kernel_rfl) rfl (by kernel_rfl) (by kernel_rfl) rfl (by kernel_rfl) (Nat.le_of_ble_eq_true (by kernel_rfl)) ?_)
    refine Xg.ops_nil ?_
    refine Xg.at_seq ?_
    refine Xg.at_region ?_
    refine Xg.ops_op (by kernel_rfl) (Xg.opx_pure ((Value.pointer (some (Addr.mk xb2 (0 : Nat) none)))) rfl (fun _ => by kernel_rfl) ?_)
    refine Xg.ops_op (by kernel_rfl) (Xg.opx_load (b := xb2) (off := ((0 : Nat))) 0 (Value.int IntKind.i64 (65280 : Int)) rfl (by kernel_rfl) (by kernel_rfl) (by kernel_rfl) ?_)
    refine Xg.ops_op (by kernel_rfl) (Xg.opx_pure ((Value.int IntKind.i64 a)) rfl (fun _ => by kernel_rfl) ?_)
    refine Xg.ops_op (by kernel_rfl) (Xg.opx_pure (.bool (decide ((((65280 : Int)) : Int) = a))) rfl (fun _ => by kernel_rfl) ?_)
    refine Xg.ops_nil ?_
    refine Xg.at_false (t := decide (((65280 : Int) = a))) (by kernel_rfl) (decide_eq_false (by omega)) ?_
    refine Xg.at_skip ?_
    refine Xg.at_inBlock ?_
    refine Xg.at_region ?_
    refine Xg.ops_op (by kernel_rfl) (Xg.opx_pure ((Value.int IntKind.i64 (1 : Int))) rfl (fun _ => by kernel_rfl) ?_)
    refine Xg.ops_op (by kernel_rfl) (Xg.opx_pure ((Value.int IntKind.i64 (1 : Int))) rfl (fun _ => by kernel_rfl) ?_)
    refine Xg.ops_nil ?_
    refine Xg.at_inLoop ?_
    refine Xg.at_seq ?_
    refine Xg.at_region ?_
    refine Xg.ops_op (by kernel_rfl) (Xg.opx_pure ((Value.bool true)) rfl (fun _ => by kernel_rfl) ?_)
    refine Xg.ops_nil ?_
    refine Xg.at_seq ?_
    refine Xg.at_true (t := true) (by kernel_rfl) rfl ?_
    refine Xg.at_skip ?_
    refine Xg.at_seq ?_
    refine Xg.at_block ?_
    refine Xg.at_seq ?_
    refine Xg.at_region ?_
    refine Xg.ops_op (by kernel_rfl) (Xg.opx_pure ((Value.agg #[Value.int IntKind.i64 (65281 : Int), Value.func (Fn.func (44 : Nat)) #[] #[], Value.func (Fn.func (45 : Nat)) #[] #[]])) rfl (fun _ => by kernel_rfl) ?_)
    refine Xg.ops_op (by kernel_rfl) (Xg.opx_new 3 [Value.int IntKind.i64 (0 : Int), Value.nilFunc, Value.nilFunc] (by kernel_rfl) (by kernel_rfl) fun xb3 => ?_)
    refine Xg.ops_op (by kernel_rfl) (Xg.opx_storen 3 (off := 0) 0 [Value.int IntKind.i64 (65281 : Int), Value.func (Fn.func (44 : Nat)) #[] #[], Value.func (Fn.func (45 : Nat)) #[] #[]] (by kernel_rfl) rfl (by kernel_rfl) (by kernel_rfl) rfl (by kernel_rfl) (Nat.le_of_ble_eq_true (by kernel_rfl)) ?_)
    refine Xg.ops_nil ?_
    refine Xg.at_seq ?_
    refine Xg.at_region ?_
    refine Xg.ops_op (by kernel_rfl) (Xg.opx_pure ((Value.pointer (some (Addr.mk xb3 (0 : Nat) none)))) rfl (fun _ => by kernel_rfl) ?_)
    refine Xg.ops_op (by kernel_rfl) (Xg.opx_load (b := xb3) (off := ((0 : Nat))) 0 (Value.int IntKind.i64 (65281 : Int)) rfl (by kernel_rfl) (by kernel_rfl) (by kernel_rfl) ?_)
    refine Xg.ops_op (by kernel_rfl) (Xg.opx_pure ((Value.int IntKind.i64 a)) rfl (fun _ => by kernel_rfl) ?_)
    refine Xg.ops_op (by kernel_rfl) (Xg.opx_pure (.bool (decide ((((65281 : Int)) : Int) = a))) rfl (fun _ => by kernel_rfl) ?_)
    refine Xg.ops_nil ?_
    refine Xg.at_false (t := decide (((65281 : Int) = a))) (by kernel_rfl) (decide_eq_false (by omega)) ?_
    refine Xg.at_skip ?_
    refine Xg.at_inBlock ?_
    refine Xg.at_region ?_
    refine Xg.ops_op (by kernel_rfl) (Xg.opx_pure ((Value.int IntKind.i64 (2 : Int))) rfl (fun _ => by kernel_rfl) ?_)
    refine Xg.ops_op (by kernel_rfl) (Xg.opx_pure ((Value.int IntKind.i64 (2 : Int))) rfl (fun _ => by kernel_rfl) ?_)
    refine Xg.ops_nil ?_
    refine Xg.at_inLoop ?_
    refine Xg.at_seq ?_
    refine Xg.at_region ?_
    refine Xg.ops_op (by kernel_rfl) (Xg.opx_pure ((Value.bool true)) rfl (fun _ => by kernel_rfl) ?_)
    refine Xg.ops_nil ?_
    refine Xg.at_seq ?_
    refine Xg.at_true (t := true) (by kernel_rfl) rfl ?_
    refine Xg.at_skip ?_
    refine Xg.at_seq ?_
    refine Xg.at_block ?_
    refine Xg.at_seq ?_
    refine Xg.at_region ?_
    refine Xg.ops_op (by kernel_rfl) (Xg.opx_pure ((Value.agg #[Value.int IntKind.i64 (65282 : Int), Value.func (Fn.func (46 : Nat)) #[] #[], Value.func (Fn.func (47 : Nat)) #[] #[]])) rfl (fun _ => by kernel_rfl) ?_)
    refine Xg.ops_op (by kernel_rfl) (Xg.opx_new 3 [Value.int IntKind.i64 (0 : Int), Value.nilFunc, Value.nilFunc] (by kernel_rfl) (by kernel_rfl) fun xb4 => ?_)
    refine Xg.ops_op (by kernel_rfl) (Xg.opx_storen 3 (off := 0) 0 [Value.int IntKind.i64 (65282 : Int), Value.func (Fn.func (46 : Nat)) #[] #[], Value.func (Fn.func (47 : Nat)) #[] #[]] (by kernel_rfl) rfl (by kernel_rfl) (by kernel_rfl) rfl (by kernel_rfl) (Nat.le_of_ble_eq_true (by kernel_rfl)) ?_)
    refine Xg.ops_nil ?_
    refine Xg.at_seq ?_
    refine Xg.at_region ?_
    refine Xg.ops_op (by kernel_rfl) (Xg.opx_pure ((Value.pointer (some (Addr.mk xb4 (0 : Nat) none)))) rfl (fun _ => by kernel_rfl) ?_)
    refine Xg.ops_op (by kernel_rfl) (Xg.opx_load (b := xb4) (off := ((0 : Nat))) 0 (Value.int IntKind.i64 (65282 : Int)) rfl (by kernel_rfl) (by kernel_rfl) (by kernel_rfl) ?_)
    refine Xg.ops_op (by kernel_rfl) (Xg.opx_pure ((Value.int IntKind.i64 a)) rfl (fun _ => by kernel_rfl) ?_)
    refine Xg.ops_op (by kernel_rfl) (Xg.opx_pure (.bool (decide ((((65282 : Int)) : Int) = a))) rfl (fun _ => by kernel_rfl) ?_)
    refine Xg.ops_nil ?_
    refine Xg.at_false (t := decide (((65282 : Int) = a))) (by kernel_rfl) (decide_eq_false (by omega)) ?_
    refine Xg.at_skip ?_
    refine Xg.at_inBlock ?_
    refine Xg.at_region ?_
    refine Xg.ops_op (by kernel_rfl) (Xg.opx_pure ((Value.int IntKind.i64 (3 : Int))) rfl (fun _ => by kernel_rfl) ?_)
    refine Xg.ops_op (by kernel_rfl) (Xg.opx_pure ((Value.int IntKind.i64 (3 : Int))) rfl (fun _ => by kernel_rfl) ?_)
    refine Xg.ops_nil ?_
    refine Xg.at_inLoop ?_
    refine Xg.at_seq ?_
    refine Xg.at_region ?_
    refine Xg.ops_op (by kernel_rfl) (Xg.opx_pure ((Value.bool true)) rfl (fun _ => by kernel_rfl) ?_)
    refine Xg.ops_nil ?_
    refine Xg.at_seq ?_
    refine Xg.at_true (t := true) (by kernel_rfl) rfl ?_
    refine Xg.at_skip ?_
    refine Xg.at_seq ?_
    refine Xg.at_block ?_
    refine Xg.at_seq ?_
    refine Xg.at_region ?_
    refine Xg.ops_op (by kernel_rfl) (Xg.opx_pure ((Value.agg #[Value.int IntKind.i64 (65284 : Int), Value.func (Fn.func (48 : Nat)) #[] #[], Value.func (Fn.func (49 : Nat)) #[] #[]])) rfl (fun _ => by kernel_rfl) ?_)
    refine Xg.ops_op (by kernel_rfl) (Xg.opx_new 3 [Value.int IntKind.i64 (0 : Int), Value.nilFunc, Value.nilFunc] (by kernel_rfl) (by kernel_rfl) fun xb5 => ?_)
    refine Xg.ops_op (by kernel_rfl) (Xg.opx_storen 3 (off := 0) 0 [Value.int IntKind.i64 (65284 : Int), Value.func (Fn.func (48 : Nat)) #[] #[], Value.func (Fn.func (49 : Nat)) #[] #[]] (by kernel_rfl) rfl (by kernel_rfl) (by kernel_rfl) rfl (by kernel_rfl) (Nat.le_of_ble_eq_true (by kernel_rfl)) ?_)
    refine Xg.ops_nil ?_
    refine Xg.at_seq ?_
    refine Xg.at_region ?_
    refine Xg.ops_op (by kernel_rfl) (Xg.opx_pure ((Value.pointer (some (Addr.mk xb5 (0 : Nat) none)))) rfl (fun _ => by kernel_rfl) ?_)
    refine Xg.ops_op (by kernel_rfl) (Xg.opx_load (b := xb5) (off := ((0 : Nat))) 0 (Value.int IntKind.i64 (65284 : Int)) rfl (by kernel_rfl) (by kernel_rfl) (by kernel_rfl) ?_)
    refine Xg.ops_op (by kernel_rfl) (Xg.opx_pure ((Value.int IntKind.i64 a)) rfl (fun _ => by kernel_rfl) ?_)
    refine Xg.ops_op (by kernel_rfl) (Xg.opx_pure (.bool (decide ((((65284 : Int)) : Int) = a))) rfl (fun _ => by kernel_rfl) ?_)
    refine Xg.ops_nil ?_
    refine Xg.at_false (t := decide (((65284 : Int) = a))) (by kernel_rfl) (decide_eq_false (by omega)) ?_
    refine Xg.at_skip ?_
    refine Xg.at_inBlock ?_
    refine Xg.at_region ?_
    refine Xg.ops_op (by kernel_rfl) (Xg.opx_pure ((Value.int IntKind.i64 (4 : Int))) rfl (fun _ => by kernel_rfl) ?_)
    refine Xg.ops_op (by kernel_rfl) (Xg.opx_pure ((Value.int IntKind.i64 (4 : Int))) rfl (fun _ => by kernel_rfl) ?_)
    refine Xg.ops_nil ?_
    refine Xg.at_inLoop ?_
    refine Xg.at_seq ?_
    refine Xg.at_region ?_
    refine Xg.ops_op (by kernel_rfl) (Xg.opx_pure ((Value.bool true)) rfl (fun _ => by kernel_rfl) ?_)
    refine Xg.ops_nil ?_
    refine Xg.at_seq ?_
    refine Xg.at_true (t := true) (by kernel_rfl) rfl ?_
    refine Xg.at_skip ?_
    refine Xg.at_seq ?_
    refine Xg.at_block ?_
    refine Xg.at_seq ?_
    refine Xg.at_region ?_
    refine Xg.ops_op (by kernel_rfl) (Xg.opx_pure ((Value.agg #[Value.int IntKind.i64 (65285 : Int), Value.func (Fn.func (50 : Nat)) #[] #[], Value.func (Fn.func (51 : Nat)) #[] #[]])) rfl (fun _ => by kernel_rfl) ?_)
    refine Xg.ops_op (by kernel_rfl) (Xg.opx_new 3 [Value.int IntKind.i64 (0 : Int), Value.nilFunc, Value.nilFunc] (by kernel_rfl) (by kernel_rfl) fun xb6 => ?_)
    refine Xg.ops_op (by kernel_rfl) (Xg.opx_storen 3 (off := 0) 0 [Value.int IntKind.i64 (65285 : Int), Value.func (Fn.func (50 : Nat)) #[] #[], Value.func (Fn.func (51 : Nat)) #[] #[]] (by kernel_rfl) rfl (by kernel_rfl) (by kernel_rfl) rfl (by kernel_rfl) (Nat.le_of_ble_eq_true (by kernel_rfl)) ?_)
    refine Xg.ops_nil ?_
    refine Xg.at_seq ?_
    refine Xg.at_region ?_
    refine Xg.ops_op (by kernel_rfl) (Xg.opx_pure ((Value.pointer (some (Addr.mk xb6 (0 : Nat) none)))) rfl (fun _ => by kernel_rfl) ?_)
    refine Xg.ops_op (by kernel_rfl) (Xg.opx_load (b := xb6) (off := ((0 : Nat))) 0 (Value.int IntKind.i64 (65285 : Int)) rfl (by kernel_rfl) (by kernel_rfl) (by kernel_rfl) ?_)
    refine Xg.ops_op (by kernel_rfl) (Xg.opx_pure ((Value.int IntKind.i64 a)) rfl (fun _ => by kernel_rfl) ?_)
    refine Xg.ops_op (by kernel_rfl) (Xg.opx_pure (.bool (decide ((((65285 : Int)) : Int) = a))) rfl (fun _ => by kernel_rfl) ?_)
    refine Xg.ops_nil ?_
    refine Xg.at_false (t := decide (((65285 : Int) = a))) (by kernel_rfl) (decide_eq_false (by omega)) ?_
    refine Xg.at_skip ?_
    refine Xg.at_inBlock ?_
    refine Xg.at_region ?_
    refine Xg.ops_op (by kernel_rfl) (Xg.opx_pure ((Value.int IntKind.i64 (5 : Int))) rfl (fun _ => by kernel_rfl) ?_)
    refine Xg.ops_op (by kernel_rfl) (Xg.opx_pure ((Value.int IntKind.i64 (5 : Int))) rfl (fun _ => by kernel_rfl) ?_)
    refine Xg.ops_nil ?_
    refine Xg.at_inLoop ?_
    refine Xg.at_seq ?_
    refine Xg.at_region ?_
    refine Xg.ops_op (by kernel_rfl) (Xg.opx_pure ((Value.bool true)) rfl (fun _ => by kernel_rfl) ?_)
    refine Xg.ops_nil ?_
    refine Xg.at_seq ?_
    refine Xg.at_true (t := true) (by kernel_rfl) rfl ?_
    refine Xg.at_skip ?_
    refine Xg.at_seq ?_
    refine Xg.at_block ?_
    refine Xg.at_seq ?_
    refine Xg.at_region ?_
    refine Xg.ops_op (by kernel_rfl) (Xg.opx_pure ((Value.agg #[Value.int IntKind.i64 (65286 : Int), Value.func (Fn.func (52 : Nat)) #[] #[], Value.func (Fn.func (53 : Nat)) #[] #[]])) rfl (fun _ => by kernel_rfl) ?_)
    refine Xg.ops_op (by kernel_rfl) (Xg.opx_new 3 [Value.int IntKind.i64 (0 : Int), Value.nilFunc, Value.nilFunc] (by kernel_rfl) (by kernel_rfl) fun xb7 => ?_)
    refine Xg.ops_op (by kernel_rfl) (Xg.opx_storen 3 (off := 0) 0 [Value.int IntKind.i64 (65286 : Int), Value.func (Fn.func (52 : Nat)) #[] #[], Value.func (Fn.func (53 : Nat)) #[] #[]] (by kernel_rfl) rfl (by kernel_rfl) (by kernel_rfl) rfl (by kernel_rfl) (Nat.le_of_ble_eq_true (by kernel_rfl)) ?_)
    refine Xg.ops_nil ?_
    refine Xg.at_seq ?_
    refine Xg.at_region ?_
    refine Xg.ops_op (by kernel_rfl) (Xg.opx_pure ((Value.pointer (some (Addr.mk xb7 (0 : Nat) none)))) rfl (fun _ => by kernel_rfl) ?_)
    refine Xg.ops_op (by kernel_rfl) (Xg.opx_load (b := xb7) (off := ((0 : Nat))) 0 (Value.int IntKind.i64 (65286 : Int)) rfl (by kernel_rfl) (by kernel_rfl) (by kernel_rfl) ?_)
    refine Xg.ops_op (by kernel_rfl) (Xg.opx_pure ((Value.int IntKind.i64 a)) rfl (fun _ => by kernel_rfl) ?_)
    refine Xg.ops_op (by kernel_rfl) (Xg.opx_pure (.bool (decide ((((65286 : Int)) : Int) = a))) rfl (fun _ => by kernel_rfl) ?_)
    refine Xg.ops_nil ?_
    refine Xg.at_false (t := decide (((65286 : Int) = a))) (by kernel_rfl) (decide_eq_false (by omega)) ?_
    refine Xg.at_skip ?_
    refine Xg.at_inBlock ?_
    refine Xg.at_region ?_
    refine Xg.ops_op (by kernel_rfl) (Xg.opx_pure ((Value.int IntKind.i64 (6 : Int))) rfl (fun _ => by kernel_rfl) ?_)
    refine Xg.ops_op (by kernel_rfl) (Xg.opx_pure ((Value.int IntKind.i64 (6 : Int))) rfl (fun _ => by kernel_rfl) ?_)
    refine Xg.ops_nil ?_
    refine Xg.at_inLoop ?_
    refine Xg.at_seq ?_
    refine Xg.at_region ?_
    refine Xg.ops_op (by kernel_rfl) (Xg.opx_pure ((Value.bool true)) rfl (fun _ => by kernel_rfl) ?_)
    refine Xg.ops_nil ?_
    refine Xg.at_seq ?_
    refine Xg.at_true (t := true) (by kernel_rfl) rfl ?_
    refine Xg.at_skip ?_
    refine Xg.at_seq ?_
    refine Xg.at_block ?_
    refine Xg.at_seq ?_
    refine Xg.at_region ?_
    refine Xg.ops_op (by kernel_rfl) (Xg.opx_pure ((Value.agg #[Value.int IntKind.i64 (65287 : Int), Value.func (Fn.func (54 : Nat)) #[] #[], Value.func (Fn.func (55 : Nat)) #[] #[]])) rfl (fun _ => by kernel_rfl) ?_)
    refine Xg.ops_op (by kernel_rfl) (Xg.opx_new 3 [Value.int IntKind.i64 (0 : Int), Value.nilFunc, Value.nilFunc] (by kernel_rfl) (by kernel_rfl) fun xb8 => ?_)
    refine Xg.ops_op (by kernel_rfl) (Xg.opx_storen 3 (off := 0) 0 [Value.int IntKind.i64 (65287 : Int), Value.func (Fn.func (54 : Nat)) #[] #[], Value.func (Fn.func (55 : Nat)) #[] #[]] (by kernel_rfl) rfl (by kernel_rfl) (by kernel_rfl) rfl (by kernel_rfl) (Nat.le_of_ble_eq_true (by kernel_rfl)) ?_)
    refine Xg.ops_nil ?_
    refine Xg.at_seq ?_
    refine Xg.at_region ?_
    refine Xg.ops_op (by kernel_rfl) (Xg.opx_pure ((Value.pointer (some (Addr.mk xb8 (0 : Nat) none)))) rfl (fun _ => by kernel_rfl) ?_)
    refine Xg.ops_op (by kernel_rfl) (Xg.opx_load (b := xb8) (off := ((0 : Nat))) 0 (Value.int IntKind.i64 (65287 : Int)) rfl (by kernel_rfl) (by kernel_rfl) (by kernel_rfl) ?_)
    refine Xg.ops_op (by kernel_rfl) (Xg.opx_pure ((Value.int IntKind.i64 a)) rfl (fun _ => by kernel_rfl) ?_)
    refine Xg.ops_op (by kernel_rfl) (Xg.opx_pure (.bool (decide ((((65287 : Int)) : Int) = a))) rfl (fun _ => by kernel_rfl) ?_)
    refine Xg.ops_nil ?_
    refine Xg.at_false (t := decide (((65287 : Int) = a))) (by kernel_rfl) (decide_eq_false (by omega)) ?_
    refine Xg.at_skip ?_
    refine Xg.at_inBlock ?_
    refine Xg.at_region ?_
    refine Xg.ops_op (by kernel_rfl) (Xg.opx_pure ((Value.int IntKind.i64 (7 : Int))) rfl (fun _ => by kernel_rfl) ?_)
    refine Xg.ops_op (by kernel_rfl) (Xg.opx_pure ((Value.int IntKind.i64 (7 : Int))) rfl (fun _ => by kernel_rfl) ?_)
    refine Xg.ops_nil ?_
    refine Xg.at_inLoop ?_
    refine Xg.at_seq ?_
    refine Xg.at_region ?_
    refine Xg.ops_op (by kernel_rfl) (Xg.opx_pure ((Value.bool true)) rfl (fun _ => by kernel_rfl) ?_)
    refine Xg.ops_nil ?_
    refine Xg.at_seq ?_
    refine Xg.at_true (t := true) (by kernel_rfl) rfl ?_
    refine Xg.at_skip ?_
    refine Xg.at_seq ?_
    refine Xg.at_block ?_
    refine Xg.at_seq ?_
    refine Xg.at_region ?_
    refine Xg.ops_op (by kernel_rfl) (Xg.opx_pure ((Value.agg #[Value.int IntKind.i64 (65295 : Int), Value.func (Fn.func (56 : Nat)) #[] #[], Value.func (Fn.func (57 : Nat)) #[] #[]])) rfl (fun _ => by kernel_rfl) ?_)
    refine Xg.ops_op (by kernel_rfl) (Xg.opx_new 3 [Value.int IntKind.i64 (0 : Int), Value.nilFunc, Value.nilFunc] (by kernel_rfl) (by kernel_rfl) fun xb9 => ?_)
    refine Xg.ops_op (by kernel_rfl) (Xg.opx_storen 3 (off := 0) 0 [Value.int IntKind.i64 (65295 : Int), Value.func (Fn.func (56 : Nat)) #[] #[], Value.func (Fn.func (57 : Nat)) #[] #[]] (by kernel_rfl) rfl (by kernel_rfl) (by kernel_rfl) rfl (by kernel_rfl) (Nat.le_of_ble_eq_true (by kernel_rfl)) ?_)
    refine Xg.ops_nil ?_
    refine Xg.at_seq ?_
    refine Xg.at_region ?_
    refine Xg.ops_op (by kernel_rfl) (Xg.opx_pure ((Value.pointer (some (Addr.mk xb9 (0 : Nat) none)))) rfl (fun _ => by kernel_rfl) ?_)
    refine Xg.ops_op (by kernel_rfl) (Xg.opx_load (b := xb9) (off := ((0 : Nat))) 0 (Value.int IntKind.i64 (65295 : Int)) rfl (by kernel_rfl) (by kernel_rfl) (by kernel_rfl) ?_)
    refine Xg.ops_op (by kernel_rfl) (Xg.opx_pure ((Value.int IntKind.i64 a)) rfl (fun _ => by kernel_rfl) ?_)
    refine Xg.ops_op (by kernel_rfl) (Xg.opx_pure (.bool (decide ((((65295 : Int)) : Int) = a))) rfl (fun _ => by kernel_rfl) ?_)
    refine Xg.ops_nil ?_
    refine Xg.at_false (t := decide (((65295 : Int) = a))) (by kernel_rfl) (decide_eq_false (by omega)) ?_
    refine Xg.at_skip ?_
    refine Xg.at_inBlock ?_
    refine Xg.at_region ?_
    refine Xg.ops_op (by kernel_rfl) (Xg.opx_pure ((Value.int IntKind.i64 (8 : Int))) rfl (fun _ => by kernel_rfl) ?_)
    refine Xg.ops_op (by kernel_rfl) (Xg.opx_pure ((Value.int IntKind.i64 (8 : Int))) rfl (fun _ => by kernel_rfl) ?_)
    refine Xg.ops_nil ?_
    refine Xg.at_inLoop ?_
    refine Xg.at_seq ?_
    refine Xg.at_region ?_
    refine Xg.ops_op (by kernel_rfl) (Xg.opx_pure ((Value.bool false)) rfl (fun _ => by kernel_rfl) ?_)
    refine Xg.ops_nil ?_
    refine Xg.at_seq ?_
    refine Xg.at_false (t := false) (by kernel_rfl) rfl ?_
    refine Xg.at_exit rfl ?_
    refine Xg.at_seq ?_
    refine Xg.at_region ?_
    refine Xg.ops_op (by kernel_rfl) (Xg.opx_pure ((Value.agg #[Value.nilFunc, Value.nilFunc])) rfl (fun _ => by kernel_rfl) ?_)
    refine Xg.ops_op (by kernel_rfl) (Xg.opx_storen 2 (off := 0) 8 [Value.nilFunc, Value.nilFunc] (by kernel_rfl) rfl (by kernel_rfl) (by kernel_rfl) rfl (by kernel_rfl) (Nat.le_of_ble_eq_true (by kernel_rfl)) ?_)
    refine Xg.ops_op (by kernel_rfl) (Xg.opx_pure ((Value.bool false)) rfl (fun _ => by kernel_rfl) ?_)
    refine Xg.ops_nil ?_
    refine Xg.at_ret_feed (v := (Value.tuple #[Value.agg #[Value.nilFunc, Value.nilFunc], Value.bool false])) [(Addr.mk xb1 (0 : Nat) none), (Addr.mk xb1 (1 : Nat) none)] [Value.nilFunc, Value.nilFunc] [] [] Go.Proofs.Tryd.func29 (by kernel_rfl) (Xg.cells_cons (b := xb1) (off := 0) 8 rfl (by kernel_rfl) (Xg.cells_cons (b := xb1) (off := 1) 8 rfl (by kernel_rfl) Xg.cells_nil)) (by kernel_rfl) (by kernel_rfl) ?_
    exact ⟨by kernel_rfl, by kernel_rfl⟩)


end Go.Proofs.YtncdmccdclhokaaDoor
