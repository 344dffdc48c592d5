import Derived.Test.YthjhkondmobaeaaDoorMRam13
import Derived.Test.YthjhkondmobaeaaDoorProg
/- cart: the types. -/
namespace Go.Proofs.YthjhkondmobaeaaDoor
open Go.Sl Go.Xg
set_option linter.unusedVariables false
set_option linter.unusedSimpArgs false
set_option maxHeartbeats 4000000
set_option maxRecDepth 100000

/-- The rows of the types, in blocks of their own. -/
def typL (A : Nat → Nat) : List (Int × Value) := [((0 : Int), Value.agg #[.int .i64 0, .int .i64 2, .slice (some ⟨A 0, 0, none⟩) 1 1, .bool false]), ((8 : Int), Value.agg #[.int .i64 0, .int .i64 2, .slice (some ⟨A 1, 0, none⟩) 1 1, .bool false]), ((9 : Int), Value.agg #[.int .i64 0, .int .i64 2, .slice (some ⟨A 2, 0, none⟩) 1 1, .bool true]), ((1 : Int), Value.agg #[.int .i64 1, .int .i64 128, .slice (some ⟨A 3, 0, none⟩) 1 1, .bool false]), ((2 : Int), Value.agg #[.int .i64 1, .int .i64 128, .slice (some ⟨A 4, 0, none⟩) 2 2, .bool false]), ((3 : Int), Value.agg #[.int .i64 1, .int .i64 128, .slice (some ⟨A 5, 0, none⟩) 2 2, .bool true]), ((5 : Int), Value.agg #[.int .i64 2, .int .i64 16, .slice (some ⟨A 6, 0, none⟩) 1 1, .bool false]), ((6 : Int), Value.agg #[.int .i64 2, .int .i64 16, .slice (some ⟨A 7, 0, none⟩) 1 1, .bool true]), ((17 : Int), Value.agg #[.int .i64 3, .int .i64 128, .slice (some ⟨A 8, 0, none⟩) 1 1, .bool false]), ((18 : Int), Value.agg #[.int .i64 3, .int .i64 128, .slice (some ⟨A 9, 0, none⟩) 2 2, .bool false]), ((19 : Int), Value.agg #[.int .i64 3, .int .i64 128, .slice (some ⟨A 10, 0, none⟩) 2 2, .bool true]), ((25 : Int), Value.agg #[.int .i64 5, .int .i64 128, .slice (some ⟨A 11, 0, none⟩) 1 1, .bool false]), ((26 : Int), Value.agg #[.int .i64 5, .int .i64 128, .slice (some ⟨A 12, 0, none⟩) 4 4, .bool false]), ((27 : Int), Value.agg #[.int .i64 5, .int .i64 128, .slice (some ⟨A 13, 0, none⟩) 4 4, .bool true])]
def typR (A : Nat → Nat) : List HP := [row (A 0) 3 [.int .i64 0], row (A 1) 3 [.int .i64 2], row (A 2) 3 [.int .i64 2], row (A 3) 3 [.int .i64 0], row (A 4) 3 [.int .i64 2, .int .i64 3], row (A 5) 3 [.int .i64 2, .int .i64 3], row (A 6) 3 [.int .i64 0], row (A 7) 3 [.int .i64 0], row (A 8) 3 [.int .i64 0], row (A 9) 3 [.int .i64 2, .int .i64 3], row (A 10) 3 [.int .i64 2, .int .i64 3], row (A 11) 3 [.int .i64 0], row (A 12) 3 [.int .i64 2, .int .i64 3, .int .i64 4, .int .i64 5], row (A 13) 3 [.int .i64 2, .int .i64 3, .int .i64 4, .int .i64 5]]
theorem types_d : Does Tryd.prog 20 [] [] (RetE (fun x : Nat × (Nat → Nat) => True) (fun x => .map (some x.1)) (fun x => [mp x.1 .u8 (typL x.2)] ++ typR x.2)) := by
  (focus
    refine Xg.spec_of Go.Proofs.Tryd.func20 rfl Go.Proofs.Tryd.ntmps20 fun g F => ?_)
  (focus
    refine Xg.at_seq ?_
    refine Xg.at_region ?_
    refine Xg.ops_op (by kernel_rfl) (Xg.opx_pure ((Value.map none)) rfl (fun _ => by kernel_rfl) ?_)
    refine Xg.ops_nil ?_
    refine Xg.at_seq ?_
    refine Xg.at_region ?_
    refine Xg.ops_op (by kernel_rfl) (Xg.opx_makeMap .u8 fun xb1 => ?_)
    refine Xg.ops_op (by kernel_rfl) (Xg.opx_bs (elem := 3) 1 [iv 0] [iv 0] (by kernel_rfl) (by kernel_rfl) (by decide) rfl (by kernel_rfl) (by kernel_rfl) (by kernel_rfl) (by kernel_rfl) fun xb2 => ?_)
    refine Xg.ops_op (by kernel_rfl) (Xg.opx_pure ((Value.agg #[iv 0, iv 2, Value.slice (some (Addr.mk xb2 (0 : Nat) none)) (1 : Nat) (1 : Nat), Value.bool false])) rfl (fun _ => by kernel_rfl) ?_)
    refine Xg.ops_op (by kernel_rfl) (Xg.opx_insert (el := 48) (b := xb1) (kd := .u8) (k := ((0 : Int))) (v := (Value.agg #[iv 0, iv 2, Value.slice (some (Addr.mk xb2 (0 : Nat) none)) (1 : Nat) (1 : Nat), Value.bool false])) (l := []) 1 rfl (by kernel_rfl) (by kernel_rfl) (by kernel_rfl) (by kernel_rfl) (by kernel_rfl) ?_)
    refine Xg.ops_op (by kernel_rfl) (Xg.opx_bs (elem := 3) 1 [iv 2] [iv 2] (by kernel_rfl) (by kernel_rfl) (by decide) rfl (by kernel_rfl) (by kernel_rfl) (by kernel_rfl) (by kernel_rfl) fun xb3 => ?_)
    refine Xg.ops_op (by kernel_rfl) (Xg.opx_pure ((Value.agg #[iv 0, iv 2, Value.slice (some (Addr.mk xb3 (0 : Nat) none)) (1 : Nat) (1 : Nat), Value.bool false])) rfl (fun _ => by kernel_rfl) ?_)
    refine Xg.ops_op (by kernel_rfl) (Xg.opx_insert (el := 48) (b := xb1) (kd := .u8) (k := ((8 : Int))) (v := (Value.agg #[iv 0, iv 2, Value.slice (some (Addr.mk xb3 (0 : Nat) none)) (1 : Nat) (1 : Nat), Value.bool false])) (l := [] ++ [((0 : Int), Value.agg #[iv 0, iv 2, Value.slice (some (Addr.mk xb2 (0 : Nat) none)) (1 : Nat) (1 : Nat), Value.bool false])]) 2 rfl (by kernel_rfl) (by kernel_rfl) (by kernel_rfl) (by kernel_rfl) (by kernel_rfl) ?_)
    refine Xg.ops_op (by kernel_rfl) (Xg.opx_bs (elem := 3) 1 [iv 2] [iv 2] (by kernel_rfl) (by kernel_rfl) (by decide) rfl (by kernel_rfl) (by kernel_rfl) (by kernel_rfl) (by kernel_rfl) fun xb4 => ?_)
    refine Xg.ops_op (by kernel_rfl) (Xg.opx_pure ((Value.agg #[iv 0, iv 2, Value.slice (some (Addr.mk xb4 (0 : Nat) none)) (1 : Nat) (1 : Nat), Value.bool true])) rfl (fun _ => by kernel_rfl) ?_)
    refine Xg.ops_op (by kernel_rfl) (Xg.opx_insert (el := 48) (b := xb1) (kd := .u8) (k := ((9 : Int))) (v := (Value.agg #[iv 0, iv 2, Value.slice (some (Addr.mk xb4 (0 : Nat) none)) (1 : Nat) (1 : Nat), Value.bool true])) (l := [] ++ [((0 : Int), Value.agg #[iv 0, iv 2, Value.slice (some (Addr.mk xb2 (0 : Nat) none)) (1 : Nat) (1 : Nat), Value.bool false])] ++ [((8 : Int), Value.agg #[iv 0, iv 2, Value.slice (some (Addr.mk xb3 (0 : Nat) none)) (1 : Nat) (1 : Nat), Value.bool false])]) 3 rfl (by kernel_rfl) (by kernel_rfl) (by kernel_rfl) (by kernel_rfl) (by kernel_rfl) ?_)
    refine Xg.ops_op (by kernel_rfl) (Xg.opx_bs (elem := 3) 1 [iv 0] [iv 0] (by kernel_rfl) (by kernel_rfl) (by decide) rfl (by kernel_rfl) (by kernel_rfl) (by kernel_rfl) (by kernel_rfl) fun xb5 => ?_)
    refine Xg.ops_op (by kernel_rfl) (Xg.opx_pure ((Value.agg #[iv 1, iv 128, Value.slice (some (Addr.mk xb5 (0 : Nat) none)) (1 : Nat) (1 : Nat), Value.bool false])) rfl (fun _ => by kernel_rfl) ?_)
    refine Xg.ops_op (by kernel_rfl) (Xg.opx_insert (el := 48) (b := xb1) (kd := .u8) (k := ((1 : Int))) (v := (Value.agg #[iv 1, iv 128, Value.slice (some (Addr.mk xb5 (0 : Nat) none)) (1 : Nat) (1 : Nat), Value.bool false])) (l := [] ++ [((0 : Int), Value.agg #[iv 0, iv 2, Value.slice (some (Addr.mk xb2 (0 : Nat) none)) (1 : Nat) (1 : Nat), Value.bool false])] ++ [((8 : Int), Value.agg #[iv 0, iv 2, Value.slice (some (Addr.mk xb3 (0 : Nat) none)) (1 : Nat) (1 : Nat), Value.bool false])] ++ [((9 : Int), Value.agg #[iv 0, iv 2, Value.slice (some (Addr.mk xb4 (0 : Nat) none)) (1 : Nat) (1 : Nat), Value.bool true])]) 4 rfl (by kernel_rfl) (by kernel_rfl) (by kernel_rfl) (by kernel_rfl) (by kernel_rfl) ?_)
    refine Xg.ops_op (by kernel_rfl) (Xg.opx_bs (elem := 3) 1 [iv 2, iv 3] [iv 2, iv 3] (by kernel_rfl) (by kernel_rfl) (by decide) rfl (by kernel_rfl) (by kernel_rfl) (by kernel_rfl) (by kernel_rfl) fun xb6 => ?_)
    refine Xg.ops_op (by kernel_rfl) (Xg.opx_pure ((Value.agg #[iv 1, iv 128, Value.slice (some (Addr.mk xb6 (0 : Nat) none)) (2 : Nat) (2 : Nat), Value.bool false])) rfl (fun _ => by kernel_rfl) ?_)
    refine Xg.ops_op (by kernel_rfl) (Xg.opx_insert (el := 48) (b := xb1) (kd := .u8) (k := ((2 : Int))) (v := (Value.agg #[iv 1, iv 128, Value.slice (some (Addr.mk xb6 (0 : Nat) none)) (2 : Nat) (2 : Nat), Value.bool false])) (l := [] ++ [((0 : Int), Value.agg #[iv 0, iv 2, Value.slice (some (Addr.mk xb2 (0 : Nat) none)) (1 : Nat) (1 : Nat), Value.bool false])] ++ [((8 : Int), Value.agg #[iv 0, iv 2, Value.slice (some (Addr.mk xb3 (0 : Nat) none)) (1 : Nat) (1 : Nat), Value.bool false])] ++ [((9 : Int), Value.agg #[iv 0, iv 2, Value.slice (some (Addr.mk xb4 (0 : Nat) none)) (1 : Nat) (1 : Nat), Value.bool true])] ++ [((1 : Int), Value.agg #[iv 1, iv 128, Value.slice (some (Addr.mk xb5 (0 : Nat) none)) (1 : Nat) (1 : Nat), Value.bool false])]) 5 rfl (by kernel_rfl) (by kernel_rfl) (by kernel_rfl) (by kernel_rfl) (by kernel_rfl) ?_)
    refine Xg.ops_op (by kernel_rfl) (Xg.opx_bs (elem := 3) 1 [iv 2, iv 3] [iv 2, iv 3] (by kernel_rfl) (by kernel_rfl) (by decide) rfl (by kernel_rfl) (by kernel_rfl) (by kernel_rfl) (by kernel_rfl) fun xb7 => ?_)
    refine Xg.ops_op (by kernel_rfl) (Xg.opx_pure ((Value.agg #[iv 1, iv 128, Value.slice (some (Addr.mk xb7 (0 : Nat) none)) (2 : Nat) (2 : Nat), Value.bool true])) rfl (fun _ => by kernel_rfl) ?_)
    refine Xg.ops_op (by kernel_rfl) (Xg.opx_insert (el := 48) (b := xb1) (kd := .u8) (k := ((3 : Int))) (v := (Value.agg #[iv 1, iv 128, Value.slice (some (Addr.mk xb7 (0 : Nat) none)) (2 : Nat) (2 : Nat), Value.bool true])) (l := [] ++ [((0 : Int), Value.agg #[iv 0, iv 2, Value.slice (some (Addr.mk xb2 (0 : Nat) none)) (1 : Nat) (1 : Nat), Value.bool false])] ++ [((8 : Int), Value.agg #[iv 0, iv 2, Value.slice (some (Addr.mk xb3 (0 : Nat) none)) (1 : Nat) (1 : Nat), Value.bool false])] ++ [((9 : Int), Value.agg #[iv 0, iv 2, Value.slice (some (Addr.mk xb4 (0 : Nat) none)) (1 : Nat) (1 : Nat), Value.bool true])] ++ [((1 : Int), Value.agg #[iv 1, iv 128, Value.slice (some (Addr.mk xb5 (0 : Nat) none)) (1 : Nat) (1 : Nat), Value.bool false])] ++ [((2 : Int), Value.agg #[iv 1, iv 128, Value.slice (some (Addr.mk xb6 (0 : Nat) none)) (2 : Nat) (2 : Nat), Value.bool false])]) 6 rfl (by kernel_rfl) (by kernel_rfl) (by kernel_rfl) (by kernel_rfl) (by kernel_rfl) ?_)
    refine Xg.ops_op (by kernel_rfl) (Xg.opx_bs (elem := 3) 1 [iv 0] [iv 0] (by kernel_rfl) (by kernel_rfl) (by decide) rfl (by kernel_rfl) (by kernel_rfl) (by kernel_rfl) (by kernel_rfl) fun xb8 => ?_)
    refine Xg.ops_op (by kernel_rfl) (Xg.opx_pure ((Value.agg #[iv 2, iv 16, Value.slice (some (Addr.mk xb8 (0 : Nat) none)) (1 : Nat) (1 : Nat), Value.bool false])) rfl (fun _ => by kernel_rfl) ?_)
    refine Xg.ops_op (by kernel_rfl) (Xg.opx_insert (el := 48) (b := xb1) (kd := .u8) (k := ((5 : Int))) (v := (Value.agg #[iv 2, iv 16, Value.slice (some (Addr.mk xb8 (0 : Nat) none)) (1 : Nat) (1 : Nat), Value.bool false])) (l := [] ++ [((0 : Int), Value.agg #[iv 0, iv 2, Value.slice (some (Addr.mk xb2 (0 : Nat) none)) (1 : Nat) (1 : Nat), Value.bool false])] ++ [((8 : Int), Value.agg #[iv 0, iv 2, Value.slice (some (Addr.mk xb3 (0 : Nat) none)) (1 : Nat) (1 : Nat), Value.bool false])] ++ [((9 : Int), Value.agg #[iv 0, iv 2, Value.slice (some (Addr.mk xb4 (0 : Nat) none)) (1 : Nat) (1 : Nat), Value.bool true])] ++ [((1 : Int), Value.agg #[iv 1, iv 128, Value.slice (some (Addr.mk xb5 (0 : Nat) none)) (1 : Nat) (1 : Nat), Value.bool false])] ++ [((2 : Int), Value.agg #[iv 1, iv 128, Value.slice (some (Addr.mk xb6 (0 : Nat) none)) (2 : Nat) (2 : Nat), Value.bool false])] ++ [((3 : Int), Value.agg #[iv 1, iv 128, Value.slice (some (Addr.mk xb7 (0 : Nat) none)) (2 : Nat) (2 : Nat), Value.bool true])]) 7 rfl (by kernel_rfl) (by kernel_rfl) (by kernel_rfl) (by kernel_rfl) (by kernel_rfl) ?_)
    refine Xg.ops_op (by kernel_rfl) (Xg.opx_bs (elem := 3) 1 [iv 0] [iv 0] (by kernel_rfl) (by kernel_rfl) (by decide) rfl (by kernel_rfl) (by kernel_rfl) (by kernel_rfl) (by kernel_rfl) fun xb9 => ?_)
    refine Xg.ops_op (by kernel_rfl) (Xg.opx_pure ((Value.agg #[iv 2, iv 16, Value.slice (some (Addr.mk xb9 (0 : Nat) none)) (1 : Nat) (1 : Nat), Value.bool true])) rfl (fun _ => by kernel_rfl) ?_)
    refine Xg.ops_op (by kernel_rfl) (Xg.opx_insert (el := 48) (b := xb1) (kd := .u8) (k := ((6 : Int))) (v := (Value.agg #[iv 2, iv 16, Value.slice (some (Addr.mk xb9 (0 : Nat) none)) (1 : Nat) (1 : Nat), Value.bool true])) (l := [] ++ [((0 : Int), Value.agg #[iv 0, iv 2, Value.slice (some (Addr.mk xb2 (0 : Nat) none)) (1 : Nat) (1 : Nat), Value.bool false])] ++ [((8 : Int), Value.agg #[iv 0, iv 2, Value.slice (some (Addr.mk xb3 (0 : Nat) none)) (1 : Nat) (1 : Nat), Value.bool false])] ++ [((9 : Int), Value.agg #[iv 0, iv 2, Value.slice (some (Addr.mk xb4 (0 : Nat) none)) (1 : Nat) (1 : Nat), Value.bool true])] ++ [((1 : Int), Value.agg #[iv 1, iv 128, Value.slice (some (Addr.mk xb5 (0 : Nat) none)) (1 : Nat) (1 : Nat), Value.bool false])] ++ [((2 : Int), Value.agg #[iv 1, iv 128, Value.slice (some (Addr.mk xb6 (0 : Nat) none)) (2 : Nat) (2 : Nat), Value.bool false])] ++ [((3 : Int), Value.agg #[iv 1, iv 128, Value.slice (some (Addr.mk xb7 (0 : Nat) none)) (2 : Nat) (2 : Nat), Value.bool true])] ++ [((5 : Int), Value.agg #[iv 2, iv 16, Value.slice (some (Addr.mk xb8 (0 : Nat) none)) (1 : Nat) (1 : Nat), Value.bool false])]) 8 rfl (by kernel_rfl) (by kernel_rfl) (by kernel_rfl) (by kernel_rfl) (by kernel_rfl) ?_)
    refine Xg.ops_op (by kernel_rfl) (Xg.opx_bs (elem := 3) 1 [iv 0] [iv 0] (by kernel_rfl) (by kernel_rfl) (by decide) rfl (by kernel_rfl) (by kernel_rfl) (by kernel_rfl) (by kernel_rfl) fun xb10 => ?_)
    refine Xg.ops_op (by kernel_rfl) (Xg.opx_pure ((Value.agg #[iv 3, iv 128, Value.slice (some (Addr.mk xb10 (0 : Nat) none)) (1 : Nat) (1 : Nat), Value.bool false])) rfl (fun _ => by kernel_rfl) ?_)
    refine Xg.ops_op (by kernel_rfl) (Xg.opx_insert (el := 48) (b := xb1) (kd := .u8) (k := ((17 : Int))) (v := (Value.agg #[iv 3, iv 128, Value.slice (some (Addr.mk xb10 (0 : Nat) none)) (1 : Nat) (1 : Nat), Value.bool false])) (l := [] ++ [((0 : Int), Value.agg #[iv 0, iv 2, Value.slice (some (Addr.mk xb2 (0 : Nat) none)) (1 : Nat) (1 : Nat), Value.bool false])] ++ [((8 : Int), Value.agg #[iv 0, iv 2, Value.slice (some (Addr.mk xb3 (0 : Nat) none)) (1 : Nat) (1 : Nat), Value.bool false])] ++ [((9 : Int), Value.agg #[iv 0, iv 2, Value.slice (some (Addr.mk xb4 (0 : Nat) none)) (1 : Nat) (1 : Nat), Value.bool true])] ++ [((1 : Int), Value.agg #[iv 1, iv 128, Value.slice (some (Addr.mk xb5 (0 : Nat) none)) (1 : Nat) (1 : Nat), Value.bool false])] ++ [((2 : Int), Value.agg #[iv 1, iv 128, Value.slice (some (Addr.mk xb6 (0 : Nat) none)) (2 : Nat) (2 : Nat), Value.bool false])] ++ [((3 : Int), Value.agg #[iv 1, iv 128, Value.slice (some (Addr.mk xb7 (0 : Nat) none)) (2 : Nat) (2 : Nat), Value.bool true])] ++ [((5 : Int), Value.agg #[iv 2, iv 16, Value.slice (some (Addr.mk xb8 (0 : Nat) none)) (1 : Nat) (1 : Nat), Value.bool false])] ++ [((6 : Int), Value.agg #[iv 2, iv 16, Value.slice (some (Addr.mk xb9 (0 : Nat) none)) (1 : Nat) (1 : Nat), Value.bool true])]) 9 rfl (by kernel_rfl) (by kernel_rfl) (by kernel_rfl) (by kernel_rfl) (by kernel_rfl) ?_)
    refine Xg.ops_op (by kernel_rfl) (Xg.opx_bs (elem := 3) 1 [iv 2, iv 3] [iv 2, iv 3] (by kernel_rfl) (by kernel_rfl) (by decide) rfl (by kernel_rfl) (by kernel_rfl) (by kernel_rfl) (by kernel_rfl) fun xb11 => ?_)
    refine Xg.ops_op (by kernel_rfl) (Xg.opx_pure ((Value.agg #[iv 3, iv 128, Value.slice (some (Addr.mk xb11 (0 : Nat) none)) (2 : Nat) (2 : Nat), Value.bool false])) rfl (fun _ => by kernel_rfl) ?_)
    refine Xg.ops_op (by kernel_rfl) (Xg.opx_insert (el := 48) (b := xb1) (kd := .u8) (k := ((18 : Int))) (v := (Value.agg #[iv 3, iv 128, Value.slice (some (Addr.mk xb11 (0 : Nat) none)) (2 : Nat) (2 : Nat), Value.bool false])) (l := [] ++ [((0 : Int), Value.agg #[iv 0, iv 2, Value.slice (some (Addr.mk xb2 (0 : Nat) none)) (1 : Nat) (1 : Nat), Value.bool false])] ++ [((8 : Int), Value.agg #[iv 0, iv 2, Value.slice (some (Addr.mk xb3 (0 : Nat) none)) (1 : Nat) (1 : Nat), Value.bool false])] ++ [((9 : Int), Value.agg #[iv 0, iv 2, Value.slice (some (Addr.mk xb4 (0 : Nat) none)) (1 : Nat) (1 : Nat), Value.bool true])] ++ [((1 : Int), Value.agg #[iv 1, iv 128, Value.slice (some (Addr.mk xb5 (0 : Nat) none)) (1 : Nat) (1 : Nat), Value.bool false])] ++ [((2 : Int), Value.agg #[iv 1, iv 128, Value.slice (some (Addr.mk xb6 (0 : Nat) none)) (2 : Nat) (2 : Nat), Value.bool false])] ++ [((3 : Int), Value.agg #[iv 1, iv 128, Value.slice (some (Addr.mk xb7 (0 : Nat) none)) (2 : Nat) (2 : Nat), Value.bool true])] ++ [((5 : Int), Value.agg #[iv 2, iv 16, Value.slice (some (Addr.mk xb8 (0 : Nat) none)) (1 : Nat) (1 : Nat), Value.bool false])] ++ [((6 : Int), Value.agg #[iv 2, iv 16, Value.slice (some (Addr.mk xb9 (0 : Nat) none)) (1 : Nat) (1 : Nat), Value.bool true])] ++ [((17 : Int), Value.agg #[iv 3, iv 128, Value.slice (some (Addr.mk xb10 (0 : Nat) none)) (1 : Nat) (1 : Nat), Value.bool false])]) 10 rfl (by kernel_rfl) (by kernel_rfl) (by kernel_rfl) (by kernel_rfl) (by kernel_rfl) ?_)
    refine Xg.ops_op (by kernel_rfl) (Xg.opx_bs (elem := 3) 1 [iv 2, iv 3] [iv 2, iv 3] (by kernel_rfl) (by kernel_rfl) (by decide) rfl (by kernel_rfl) (by kernel_rfl) (by kernel_rfl) (by kernel_rfl) fun xb12 => ?_)
    refine Xg.ops_op (by kernel_rfl) (Xg.opx_pure ((Value.agg #[iv 3, iv 128, Value.slice (some (Addr.mk xb12 (0 : Nat) none)) (2 : Nat) (2 : Nat), Value.bool true])) rfl (fun _ => by kernel_rfl) ?_)
    refine Xg.ops_op (by kernel_rfl) (Xg.opx_insert (el := 48) (b := xb1) (kd := .u8) (k := ((19 : Int))) (v := (Value.agg #[iv 3, iv 128, Value.slice (some (Addr.mk xb12 (0 : Nat) none)) (2 : Nat) (2 : Nat), Value.bool true])) (l := [] ++ [((0 : Int), Value.agg #[iv 0, iv 2, Value.slice (some (Addr.mk xb2 (0 : Nat) none)) (1 : Nat) (1 : Nat), Value.bool false])] ++ [((8 : Int), Value.agg #[iv 0, iv 2, Value.slice (some (Addr.mk xb3 (0 : Nat) none)) (1 : Nat) (1 : Nat), Value.bool false])] ++ [((9 : Int), Value.agg #[iv 0, iv 2, Value.slice (some (Addr.mk xb4 (0 : Nat) none)) (1 : Nat) (1 : Nat), Value.bool true])] ++ [((1 : Int), Value.agg #[iv 1, iv 128, Value.slice (some (Addr.mk xb5 (0 : Nat) none)) (1 : Nat) (1 : Nat), Value.bool false])] ++ [((2 : Int), Value.agg #[iv 1, iv 128, Value.slice (some (Addr.mk xb6 (0 : Nat) none)) (2 : Nat) (2 : Nat), Value.bool false])] ++ [((3 : Int), Value.agg #[iv 1, iv 128, Value.slice (some (Addr.mk xb7 (0 : Nat) none)) (2 : Nat) (2 : Nat), Value.bool true])] ++ [((5 : Int), Value.agg #[iv 2, iv 16, Value.slice (some (Addr.mk xb8 (0 : Nat) none)) (1 : Nat) (1 : Nat), Value.bool false])] ++ [((6 : Int), Value.agg #[iv 2, iv 16, Value.slice (some (Addr.mk xb9 (0 : Nat) none)) (1 : Nat) (1 : Nat), Value.bool true])] ++ [((17 : Int), Value.agg #[iv 3, iv 128, Value.slice (some (Addr.mk xb10 (0 : Nat) none)) (1 : Nat) (1 : Nat), Value.bool false])] ++ [((18 : Int), Value.agg #[iv 3, iv 128, Value.slice (some (Addr.mk xb11 (0 : Nat) none)) (2 : Nat) (2 : Nat), Value.bool false])]) 11 rfl (by kernel_rfl) (by kernel_rfl) (by kernel_rfl) (by kernel_rfl) (by kernel_rfl) ?_)
    refine Xg.ops_op (by kernel_rfl) (Xg.opx_bs (elem := 3) 1 [iv 0] [iv 0] (by kernel_rfl) (by kernel_rfl) (by decide) rfl (by kernel_rfl) (by kernel_rfl) (by kernel_rfl) (by kernel_rfl) fun xb13 => ?_)
    refine Xg.ops_op (by kernel_rfl) (Xg.opx_pure ((Value.agg #[iv 5, iv 128, Value.slice (some (Addr.mk xb13 (0 : Nat) none)) (1 : Nat) (1 : Nat), Value.bool false])) rfl (fun _ => by kernel_rfl) ?_)
    refine Xg.ops_op (by kernel_rfl) (Xg.opx_insert (el := 48) (b := xb1) (kd := .u8) (k := ((25 : Int))) (v := (Value.agg #[iv 5, iv 128, Value.slice (some (Addr.mk xb13 (0 : Nat) none)) (1 : Nat) (1 : Nat), Value.bool false])) (l := [] ++ [((0 : Int), Value.agg #[iv 0, iv 2, Value.slice (some (Addr.mk xb2 (0 : Nat) none)) (1 : Nat) (1 : Nat), Value.bool false])] ++ [((8 : Int), Value.agg #[iv 0, iv 2, Value.slice (some (Addr.mk xb3 (0 : Nat) none)) (1 : Nat) (1 : Nat), Value.bool false])] ++ [((9 : Int), Value.agg #[iv 0, iv 2, Value.slice (some (Addr.mk xb4 (0 : Nat) none)) (1 : Nat) (1 : Nat), Value.bool true])] ++ [((1 : Int), Value.agg #[iv 1, iv 128, Value.slice (some (Addr.mk xb5 (0 : Nat) none)) (1 : Nat) (1 : Nat), Value.bool false])] ++ [((2 : Int), Value.agg #[iv 1, iv 128, Value.slice (some (Addr.mk xb6 (0 : Nat) none)) (2 : Nat) (2 : Nat), Value.bool false])] ++ [((3 : Int), Value.agg #[iv 1, iv 128, Value.slice (some (Addr.mk xb7 (0 : Nat) none)) (2 : Nat) (2 : Nat), Value.bool true])] ++ [((5 : Int), Value.agg #[iv 2, iv 16, Value.slice (some (Addr.mk xb8 (0 : Nat) none)) (1 : Nat) (1 : Nat), Value.bool false])] ++ [((6 : Int), Value.agg #[iv 2, iv 16, Value.slice (some (Addr.mk xb9 (0 : Nat) none)) (1 : Nat) (1 : Nat), Value.bool true])] ++ [((17 : Int), Value.agg #[iv 3, iv 128, Value.slice (some (Addr.mk xb10 (0 : Nat) none)) (1 : Nat) (1 : Nat), Value.bool false])] ++ [((18 : Int), Value.agg #[iv 3, iv 128, Value.slice (some (Addr.mk xb11 (0 : Nat) none)) (2 : Nat) (2 : Nat), Value.bool false])] ++ [((19 : Int), Value.agg #[iv 3, iv 128, Value.slice (some (Addr.mk xb12 (0 : Nat) none)) (2 : Nat) (2 : Nat), Value.bool true])]) 12 rfl (by kernel_rfl) (by kernel_rfl) (by kernel_rfl) (by kernel_rfl) (by kernel_rfl) ?_)
    refine Xg.ops_op (by kernel_rfl) (Xg.opx_bs (elem := 3) 1 [iv 2, iv 3, iv 4, iv 5] [iv 2, iv 3, iv 4, iv 5] (by kernel_rfl) (by kernel_rfl) (by decide) rfl (by kernel_rfl) (by kernel_rfl) (by kernel_rfl) (by kernel_rfl) fun xb14 => ?_)
    refine Xg.ops_op (by kernel_rfl) (Xg.opx_pure ((Value.agg #[iv 5, iv 128, Value.slice (some (Addr.mk xb14 (0 : Nat) none)) (4 : Nat) (4 : Nat), Value.bool false])) rfl (fun _ => by kernel_rfl) ?_)
    refine Xg.ops_op (by kernel_rfl) (Xg.opx_insert (el := 48) (b := xb1) (kd := .u8) (k := ((26 : Int))) (v := (Value.agg #[iv 5, iv 128, Value.slice (some (Addr.mk xb14 (0 : Nat) none)) (4 : Nat) (4 : Nat), Value.bool false])) (l := [] ++ [((0 : Int), Value.agg #[iv 0, iv 2, Value.slice (some (Addr.mk xb2 (0 : Nat) none)) (1 : Nat) (1 : Nat), Value.bool false])] ++ [((8 : Int), Value.agg #[iv 0, iv 2, Value.slice (some (Addr.mk xb3 (0 : Nat) none)) (1 : Nat) (1 : Nat), Value.bool false])] ++ [((9 : Int), Value.agg #[iv 0, iv 2, Value.slice (some (Addr.mk xb4 (0 : Nat) none)) (1 : Nat) (1 : Nat), Value.bool true])] ++ [((1 : Int), Value.agg #[iv 1, iv 128, Value.slice (some (Addr.mk xb5 (0 : Nat) none)) (1 : Nat) (1 : Nat), Value.bool false])] ++ [((2 : Int), Value.agg #[iv 1, iv 128, Value.slice (some (Addr.mk xb6 (0 : Nat) none)) (2 : Nat) (2 : Nat), Value.bool false])] ++ [((3 : Int), Value.agg #[iv 1, iv 128, Value.slice (some (Addr.mk xb7 (0 : Nat) none)) (2 : Nat) (2 : Nat), Value.bool true])] ++ [((5 : Int), Value.agg #[iv 2, iv 16, Value.slice (some (Addr.mk xb8 (0 : Nat) none)) (1 : Nat) (1 : Nat), Value.bool false])] ++ [((6 : Int), Value.agg #[iv 2, iv 16, Value.slice (some (Addr.mk xb9 (0 : Nat) none)) (1 : Nat) (1 : Nat), Value.bool true])] ++ [((17 : Int), Value.agg #[iv 3, iv 128, Value.slice (some (Addr.mk xb10 (0 : Nat) none)) (1 : Nat) (1 : Nat), Value.bool false])] ++ [((18 : Int), Value.agg #[iv 3, iv 128, Value.slice (some (Addr.mk xb11 (0 : Nat) none)) (2 : Nat) (2 : Nat), Value.bool false])] ++ [((19 : Int), Value.agg #[iv 3, iv 128, Value.slice (some (Addr.mk xb12 (0 : Nat) none)) (2 : Nat) (2 : Nat), Value.bool true])] ++ [((25 : Int), Value.agg #[iv 5, iv 128, Value.slice (some (Addr.mk xb13 (0 : Nat) none)) (1 : Nat) (1 : Nat), Value.bool false])]) 13 rfl (by kernel_rfl) (by kernel_rfl) (by kernel_rfl) (by kernel_rfl) (by kernel_rfl) ?_)
    refine Xg.ops_op (by kernel_rfl) (Xg.opx_bs (elem := 3) 1 [iv 2, iv 3, iv 4, iv 5] [iv 2, iv 3, iv 4, iv 5] (by kernel_rfl) (by kernel_rfl) (by decide) rfl (by kernel_rfl) (by kernel_rfl) (by kernel_rfl) (by kernel_rfl) fun xb15 => ?_)
    refine Xg.ops_op (by kernel_rfl) (Xg.opx_pure ((Value.agg #[iv 5, iv 128, Value.slice (some (Addr.mk xb15 (0 : Nat) none)) (4 : Nat) (4 : Nat), Value.bool true])) rfl (fun _ => by kernel_rfl) ?_)
    refine Xg.ops_op (by kernel_rfl) (Xg.opx_insert (el := 48) (b := xb1) (kd := .u8) (k := ((27 : Int))) (v := (Value.agg #[iv 5, iv 128, Value.slice (some (Addr.mk xb15 (0 : Nat) none)) (4 : Nat) (4 : Nat), Value.bool true])) (l := [] ++ [((0 : Int), Value.agg #[iv 0, iv 2, Value.slice (some (Addr.mk xb2 (0 : Nat) none)) (1 : Nat) (1 : Nat), Value.bool false])] ++ [((8 : Int), Value.agg #[iv 0, iv 2, Value.slice (some (Addr.mk xb3 (0 : Nat) none)) (1 : Nat) (1 : Nat), Value.bool false])] ++ [((9 : Int), Value.agg #[iv 0, iv 2, Value.slice (some (Addr.mk xb4 (0 : Nat) none)) (1 : Nat) (1 : Nat), Value.bool true])] ++ [((1 : Int), Value.agg #[iv 1, iv 128, Value.slice (some (Addr.mk xb5 (0 : Nat) none)) (1 : Nat) (1 : Nat), Value.bool false])] ++ [((2 : Int), Value.agg #[iv 1, iv 128, Value.slice (some (Addr.mk xb6 (0 : Nat) none)) (2 : Nat) (2 : Nat), Value.bool false])] ++ [((3 : Int), Value.agg #[iv 1, iv 128, Value.slice (some (Addr.mk xb7 (0 : Nat) none)) (2 : Nat) (2 : Nat), Value.bool true])] ++ [((5 : Int), Value.agg #[iv 2, iv 16, Value.slice (some (Addr.mk xb8 (0 : Nat) none)) (1 : Nat) (1 : Nat), Value.bool false])] ++ [((6 : Int), Value.agg #[iv 2, iv 16, Value.slice (some (Addr.mk xb9 (0 : Nat) none)) (1 : Nat) (1 : Nat), Value.bool true])] ++ [((17 : Int), Value.agg #[iv 3, iv 128, Value.slice (some (Addr.mk xb10 (0 : Nat) none)) (1 : Nat) (1 : Nat), Value.bool false])] ++ [((18 : Int), Value.agg #[iv 3, iv 128, Value.slice (some (Addr.mk xb11 (0 : Nat) none)) (2 : Nat) (2 : Nat), Value.bool false])] ++ [((19 : Int), Value.agg #[iv 3, iv 128, Value.slice (some (Addr.mk xb12 (0 : Nat) none)) (2 : Nat) (2 : Nat), Value.bool true])] ++ [((25 : Int), Value.agg #[iv 5, iv 128, Value.slice (some (Addr.mk xb13 (0 : Nat) none)) (1 : Nat) (1 : Nat), Value.bool false])] ++ [((26 : Int), Value.agg #[iv 5, iv 128, Value.slice (some (Addr.mk xb14 (0 : Nat) none)) (4 : Nat) (4 : Nat), Value.bool false])]) 14 rfl (by kernel_rfl) (by kernel_rfl) (by kernel_rfl) (by kernel_rfl) (by kernel_rfl) ?_)
    refine Xg.ops_op (by kernel_rfl) (Xg.opx_pure ((Value.map (some xb1))) rfl (fun _ => by kernel_rfl) ?_)
    refine Xg.ops_op (by kernel_rfl) (Xg.opx_pure ((Value.map (some xb1))) rfl (fun _ => by kernel_rfl) ?_)
    refine Xg.ops_nil ?_)
  refine Xg.at_ret_ps (v := .map (some xb1)) [14, 13, 12, 11, 10, 9, 8, 7, 6, 5, 4, 3, 2, 1, 0] _ Tryd.func20 (fun _ => by kernel_rfl) (by kernel_rfl) rfl ⟨(xb1, fun i => [xb2, xb3, xb4, xb5, xb6, xb7, xb8, xb9, xb10, xb11, xb12, xb13, xb14, xb15].getD i 0), trivial, rfl, ?_⟩
  rfl
end Go.Proofs.YthjhkondmobaeaaDoor

/- cart: marked, sum, has, rams, title. -/
namespace Go.Proofs.YthjhkondmobaeaaDoor
open Go.Sl Go.Xg
set_option linter.unusedVariables false
set_option linter.unusedSimpArgs false
set_option maxHeartbeats 4000000
set_option maxRecDepth 100000

theorem has_d (A : HP) (a : Option Addr) (n c : Nat) (xs : List Int) (hn : xs.length = n) (hm : n ≤ 100) (hR : Reads A 1 (.slice a n c) n (xs.map (Value.int .i64))) (q : Int) : Does Tryd.prog 23 [.slice a n c, .int .i64 q] [A] (Ret (.bool (decide (q ∈ xs))) [A]) := by
  (focus
    refine Xg.spec_of Go.Proofs.Tryd.func23 rfl Go.Proofs.Tryd.ntmps23 fun g F => ?_)
  have hnot : ∀ i, (∀ k, k < i → xs.getD k 0 ≠ q) → i = n → decide (q ∈ xs) = false := fun i h e => by
    simp only [decide_eq_false_iff_not]
    intro hx
    obtain ⟨k, hk, e2⟩ := List.getElem_of_mem hx
    refine h k (by omega) ?_
    rw [List.getD_eq_getElem?_getD, List.getElem?_eq_getElem hk]
    exact e2
  (focus
    refine Xg.at_seq ?_
    refine Xg.at_region ?_
    refine Xg.ops_op (by kernel_rfl) (Xg.opx_pure ((Value.bool false)) rfl (fun _ => by kernel_rfl) ?_)
    refine Xg.ops_nil ?_
    refine Xg.at_seq ?_
    refine Xg.at_seq ?_
    refine Xg.at_region ?_
    refine Xg.ops_op (by kernel_rfl) (Xg.opx_pure ((Value.slice a n c)) rfl (fun _ => by kernel_rfl) ?_)
    refine Xg.ops_op (by kernel_rfl) (Xg.opx_pure ((iv (↑n : Int))) rfl (fun _ => by kernel_rfl) ?_)
    refine Xg.ops_op (by kernel_rfl) (Xg.opx_pure ((iv 0)) rfl (fun _ => by kernel_rfl) ?_)
    refine Xg.ops_nil ?_
    refine Xg.at_block ?_)
  (focus
    refine Xg.at_rounds_inv (α := (Nat) × (Nat → Value)) (fun x => ((fun i => i ≤ n ∧ ∀ k, k < i → xs.getD k 0 ≠ q) : (Nat) → Prop) x.1) (fun x => ((fun i => n - i) : (Nat) → Nat) x.1) (fun x => Xg.headT [Value.slice a n c, iv q, tu, tu, Value.bool false, tu, tu, Value.slice a n c, iv (↑n : Int), iv 0, tu, tu, tu, tu, tu, tu, tu] [4, 6, 10, 11, 12, 13, 14, 15, 16] (((fun i => [(9, .int .i64 (i : Nat))]) : (Nat) → List (Nat × Go.Value)) x.1) x.2) (fun x => ((fun i => [A]) : (Nat) → List Go.Sl.HP) x.1) ((0), fun j9 => ([Value.slice a n c, iv q, tu, tu, Value.bool false, tu, tu, Value.slice a n c, iv (↑n : Int), iv 0, tu, tu, tu, tu, tu, tu, tu] : List Value).getD j9 undef) (by kernel_rfl) (by kernel_rfl) ?_ ?_)
  · exact ⟨Nat.zero_le _, fun k hk => absurd hk (Nat.not_lt_zero _)⟩
  rintro ⟨i, J⟩ hI ih
  obtain ⟨hi, hne⟩ := hI
  dsimp only at hi hne
  (focus
    refine Xg.At.same (T' := [Value.slice a n c, iv q, tu, tu, J 4, tu, J 6, Value.slice a n c, iv (↑n : Int), iv (↑i : Int), J 10, J 11, J 12, J 13, J 14, J 15, J 16]) (L' := [A]) (by kernel_rfl) rfl ?_)
  by_cases hlt : i < n
  · by_cases he : xs.getD i 0 = q
    · have hd : decide (q ∈ xs) = true := by
        simp only [decide_eq_true_eq]
        rw [← he, List.getD_eq_getElem?_getD, List.getElem?_eq_getElem (by omega)]
        exact List.getElem_mem _
      (focus
        refine Xg.at_seq ?_
        refine Xg.at_region ?_
        refine Xg.ops_op (by kernel_rfl) (Xg.opx_pure (.bool (decide ((((↑i : Int)) : Int) < ((↑n : Int))))) rfl (fun _ => by kernel_rfl) ?_)
        refine Xg.ops_nil ?_
        refine Xg.at_seq ?_
        refine Xg.at_true (t := decide (((↑i : Int) < (↑n : Int)))) (by kernel_rfl) (decide_eq_true (by omega)) ?_
        refine Xg.at_skip ?_
        refine Xg.at_seq ?_
        refine Xg.at_block ?_
        refine Xg.at_seq ?_
        refine Xg.at_region ?_
        refine Xg.ops_op (by kernel_rfl) (Xg.opx_rd 0 (.pointer (some (Addr.mk (Xg.blk a) (offA a + i) none))) rfl hR (by kernel_rfl) (Xg.run_ix_rd (elem := 3) (kd := .i64) (e := ((↑i : Int))) 1 i (offA a + i) (by kernel_rfl) (by kernel_rfl) (by kernel_rfl) (by kernel_rfl) rfl (by omega) (by simp only [List.length_map]; omega) (by omega)) ?_)
        refine Xg.ops_op (by kernel_rfl) (Xg.opx_rd 0 (iv (xs.getD i (0 : Int))) rfl hR (by kernel_rfl) (Xg.run_load_rd (off0 := (offA a + i)) i (by kernel_rfl) (by omega) (Xg.get_ints (by omega)) (by kernel_rfl)) ?_)
        refine Xg.ops_op (by kernel_rfl) (Xg.opx_pure ((iv (xs.getD i (0 : Int)))) rfl (fun _ => by kernel_rfl) ?_)
        refine Xg.ops_nil ?_
        refine Xg.at_seq ?_
        refine Xg.at_region ?_
        refine Xg.ops_op (by kernel_rfl) (Xg.opx_pure ((iv (xs.getD i (0 : Int)))) rfl (fun _ => by kernel_rfl) ?_)
        refine Xg.ops_op (by kernel_rfl) (Xg.opx_pure ((iv q)) rfl (fun _ => by kernel_rfl) ?_)
        refine Xg.ops_op (by kernel_rfl) (Xg.opx_pure (.bool (decide (((xs.getD i (0 : Int)) : Int) = q))) rfl (fun _ => by kernel_rfl) ?_)
        refine Xg.ops_nil ?_
        refine Xg.at_true (t := decide ((xs.getD i (0 : Int) = q))) (by kernel_rfl) (decide_eq_true (by omega)) ?_
        refine Xg.at_seq ?_
        refine Xg.at_region ?_
        refine Xg.ops_op (by kernel_rfl) (Xg.opx_pure ((Value.bool true)) rfl (fun _ => by kernel_rfl) ?_)
        refine Xg.ops_nil ?_
        refine Xg.at_ret_ps (v := (Value.bool true)) [0] [A] Go.Proofs.Tryd.func23 (fun _ => by kernel_rfl) (by kernel_rfl) (by kernel_rfl) ?_)
      all_goals (rw [hd]; exact ⟨rfl, rfl⟩)
    · (focus
        refine Xg.at_seq ?_
        refine Xg.at_region ?_
        refine Xg.ops_op (by kernel_rfl) (Xg.opx_pure (.bool (decide ((((↑i : Int)) : Int) < ((↑n : Int))))) rfl (fun _ => by kernel_rfl) ?_)
        refine Xg.ops_nil ?_
        refine Xg.at_seq ?_
        refine Xg.at_true (t := decide (((↑i : Int) < (↑n : Int)))) (by kernel_rfl) (decide_eq_true (by omega)) ?_
        refine Xg.at_skip ?_
        refine Xg.at_seq ?_
        refine Xg.at_block ?_
        refine Xg.at_seq ?_
        refine Xg.at_region ?_
        refine Xg.ops_op (by kernel_rfl) (Xg.opx_rd 0 (.pointer (some (Addr.mk (Xg.blk a) (offA a + i) none))) rfl hR (by kernel_rfl) (Xg.run_ix_rd (elem := 3) (kd := .i64) (e := ((↑i : Int))) 1 i (offA a + i) (by kernel_rfl) (by kernel_rfl) (by kernel_rfl) (by kernel_rfl) rfl (by omega) (by simp only [List.length_map]; omega) (by omega)) ?_)
        refine Xg.ops_op (by kernel_rfl) (Xg.opx_rd 0 (iv (xs.getD i (0 : Int))) rfl hR (by kernel_rfl) (Xg.run_load_rd (off0 := (offA a + i)) i (by kernel_rfl) (by omega) (Xg.get_ints (by omega)) (by kernel_rfl)) ?_)
        refine Xg.ops_op (by kernel_rfl) (Xg.opx_pure ((iv (xs.getD i (0 : Int)))) rfl (fun _ => by kernel_rfl) ?_)
        refine Xg.ops_nil ?_
        refine Xg.at_seq ?_
        refine Xg.at_region ?_
        refine Xg.ops_op (by kernel_rfl) (Xg.opx_pure ((iv (xs.getD i (0 : Int)))) rfl (fun _ => by kernel_rfl) ?_)
        refine Xg.ops_op (by kernel_rfl) (Xg.opx_pure ((iv q)) rfl (fun _ => by kernel_rfl) ?_)
        refine Xg.ops_op (by kernel_rfl) (Xg.opx_pure (.bool (decide (((xs.getD i (0 : Int)) : Int) = q))) rfl (fun _ => by kernel_rfl) ?_)
        refine Xg.ops_nil ?_
        refine Xg.at_false (t := decide ((xs.getD i (0 : Int) = q))) (by kernel_rfl) (decide_eq_false (by omega)) ?_
        refine Xg.at_skip ?_
        refine Xg.at_inBlock ?_
        refine Xg.at_region ?_
        refine Xg.ops_op (by kernel_rfl) (Xg.opx_int .i64 (IntKind.wrap .i64 (((↑i : Int) + (1 : Int)))) rfl (fun _ => by kernel_rfl) (Xg.wrap_i64_in (by omega)) ?_)
        refine Xg.ops_op (by kernel_rfl) (Xg.opx_pure ((iv ((↑i : Int) + (1 : Int)))) rfl (fun _ => by kernel_rfl) ?_)
        refine Xg.ops_nil ?_
        refine Xg.at_inLoop ?_)
      (focus
        refine Xg.at_keep [0] (by kernel_rfl) ?_
        refine Xs.same ?_ (fun J9 => ih (((i + 1)), J9) ?_ ?_) (by kernel_rfl))
      · rfl
      · exact ⟨hlt, fun k hk => by
          by_cases e : k = i
          · subst e; exact he
          · exact hne k (by omega)⟩
      · dsimp only; omega
  · have hd := hnot i hne (by omega)
    (focus
      refine Xg.at_seq ?_
      refine Xg.at_region ?_
      refine Xg.ops_op (by kernel_rfl) (Xg.opx_pure (.bool (decide ((((↑i : Int)) : Int) < ((↑n : Int))))) rfl (fun _ => by kernel_rfl) ?_)
      refine Xg.ops_nil ?_
      refine Xg.at_seq ?_
      refine Xg.at_false (t := decide (((↑i : Int) < (↑n : Int)))) (by kernel_rfl) (decide_eq_false (by omega)) ?_
      refine Xg.at_exit rfl ?_
      refine Xg.at_seq ?_
      refine Xg.at_region ?_
      refine Xg.ops_op (by kernel_rfl) (Xg.opx_pure ((Value.bool false)) rfl (fun _ => by kernel_rfl) ?_)
      refine Xg.ops_nil ?_
      refine Xg.at_ret_ps (v := (Value.bool false)) [0] [A] Go.Proofs.Tryd.func23 (fun _ => by kernel_rfl) (by kernel_rfl) (by kernel_rfl) ?_)
    all_goals (rw [hd]; exact ⟨rfl, rfl⟩)
theorem rams_d : Does Tryd.prog 25 [] [] (RetE (fun x : Nat => True) (fun x => .slice (some ⟨x, 0, none⟩) 6 6) (fun x => [row x 3 [.int .i64 0, .int .i64 0, .int .i64 8192, .int .i64 32768, .int .i64 131072, .int .i64 65536]])) := by
  (focus
    refine Xg.spec_of Go.Proofs.Tryd.func25 rfl Go.Proofs.Tryd.ntmps25 fun g F => ?_)
  (focus
    refine Xg.at_seq ?_
    refine Xg.at_region ?_
    refine Xg.ops_op (by kernel_rfl) (Xg.opx_pure ((Value.slice none (0 : Nat) (0 : Nat))) rfl (fun _ => by kernel_rfl) ?_)
    refine Xg.ops_nil ?_
    refine Xg.at_seq ?_
    refine Xg.at_region ?_
    refine Xg.ops_op (by kernel_rfl) (Xg.opx_bs (elem := 3) 1 [iv 0, iv 0, iv 8192, iv 32768, iv 131072, iv 65536] [iv 0, iv 0, iv 8192, iv 32768, iv 131072, iv 65536] (by kernel_rfl) (by kernel_rfl) (by decide) rfl (by kernel_rfl) (by kernel_rfl) (by kernel_rfl) (by kernel_rfl) fun xb1 => ?_)
    refine Xg.ops_op (by kernel_rfl) (Xg.opx_pure ((Value.slice (some (Addr.mk xb1 (0 : Nat) none)) (6 : Nat) (6 : Nat))) rfl (fun _ => by kernel_rfl) ?_)
    refine Xg.ops_nil ?_
    refine Xg.at_ret_ps (v := (Value.slice (some (Addr.mk xb1 (0 : Nat) none)) (6 : Nat) (6 : Nat))) [0] [row xb1 (3 : TypeId) [iv 0, iv 0, iv 8192, iv 32768, iv 131072, iv 65536]] Go.Proofs.Tryd.func25 (fun _ => by kernel_rfl) (by kernel_rfl) (by kernel_rfl) ?_
    refine ⟨xb1, trivial, by kernel_rfl, by kernel_rfl⟩)
end Go.Proofs.YthjhkondmobaeaaDoor

/- A cut: what a piece of code does is shown once, and what stands behind it is walked once. -/
namespace Go.Xg
open Go Go.Sl
section
variable {P : Program} {f : FuncId} {g : World} {F : List HP} {R : Ending → World → Prop} {k : List Item} {T : List Value} {L : List HP}
theorem at_cut {α : Type _} {c : Code} (I : α → Prop) (HT : α → List Value) (HL : α → List HP)
    (h1 : ∀ k', (∀ y, I y → At P f g F R k' (HT y) (HL y)) → At P f g F R (.code c :: k') T L)
    (h2 : ∀ y, I y → At P f g F R k (HT y) (HL y)) : At P f g F R (.code c :: k) T L := h1 k h2
theorem at_cut2 {α : Type _} {c d : Code} (I : α → Prop) (HT : α → List Value) (HL : α → List HP)
    (h1 : ∀ k', (∀ y, I y → At P f g F R k' (HT y) (HL y)) → At P f g F R (.code c :: .code d :: k') T L)
    (h2 : ∀ y, I y → At P f g F R k (HT y) (HL y)) : At P f g F R (.code c :: .code d :: k) T L := h1 k h2
end
end Go.Xg

/- The beginning of what is only read. Over any program. -/
namespace Go.Xg
open Go Go.Sl
set_option linter.unusedVariables false
set_option linter.unusedSimpArgs false

theorem reads_pre {A : HP} {sz n c : Nat} {a : Option Addr} {vs : List Value} (hr : Reads A sz (.slice a n c) n vs) (m : Nat) (hm : m ≤ n) :
    Reads A sz (.slice a m c) m (vs.take (m * sz)) := by
  refine ⟨fun g F w hS => ?_⟩
  obtain ⟨a', c', e, h1, h2⟩ := hr.run g F w hS
  cases e
  refine ⟨_, _, rfl, ?_, fun j u hu => ?_⟩
  · rw [List.length_take, h1]
    exact Nat.min_eq_left (Nat.mul_le_mul_right _ hm)
  · rw [List.getElem?_take] at hu
    split at hu
    · exact h2 j u hu
    · cases hu
theorem reads_pre1 {A : HP} {n c : Nat} {a : Option Addr} {kd : IntKind} {xs : List Int} (hr : Reads A 1 (.slice a n c) n (xs.map (Value.int kd))) (m : Nat) (hm : m ≤ n) :
    Reads A 1 (.slice a m c) m ((xs.take m).map (Value.int kd)) := by
  have := reads_pre hr m hm
  rwa [Nat.mul_one, ← List.map_take] at this
theorem reads_mid1 {A : HP} {n c : Nat} {a : Option Addr} {kd : IntKind} {xs : List Int} (hr : Reads A 1 (.slice a n c) n (xs.map (Value.int kd))) (l m : Nat) (hl : l + m ≤ n) (hc : n ≤ c) :
    Reads A 1 (.slice (subA a c l 1) m (c - l)) m (((xs.drop l).take m).map (Value.int kd)) :=
  reads_pre1 (reads_sub1 hr l (by omega) hc) m (by omega)
theorem mid_getD (xs : List Int) (l m i : Nat) (hi : i < m) : ((xs.drop l).take m).getD i 0 = xs.getD (l + i) 0 := by
  simp [List.getD_eq_getElem?_getD, List.getElem?_take, hi]
theorem does_conv {P : Program} {pre pre' K : List HP} {f : FuncId} {args : List Value} {α β : Type} {pp : α → Prop} {V : α → Value} {PS : α → List HP} {q : β → Prop} {V' : β → Value} {QS : β → List HP}
    (h : Does P f args pre' (RetE pp V PS)) (h1 : ∀ g w F, SL g (pre ++ F) w → SL g (pre' ++ (K ++ F)) w) (h2 : ∀ x, pp x → ∀ g w F, SL g (PS x ++ (K ++ F)) w → ∃ y, q y ∧ V x = V' y ∧ SL g (QS y ++ F) w) : Does P f args pre (RetE q V' QS) := by
  constructor
  intro g F w hS cs
  obtain ⟨e, w', fr, ⟨v, ps, ⟨x, hx, rfl, rfl⟩, rfl, h3⟩, h4⟩ := h.run g (K ++ F) w (h1 _ _ _ hS) cs
  obtain ⟨y, hy, hv, hs⟩ := h2 x hx _ _ _ h3
  exact ⟨_, w', fr, ⟨_, _, ⟨y, hy, hv, rfl⟩, rfl, hs⟩, h4⟩
theorem ret_e {P : Program} {f : FuncId} {args : List Value} {pre ps : List HP} {v : Value} (h : Does P f args pre (Ret v ps)) : Does P f args pre (RetE (fun _ : Unit => True) (fun _ => v) (fun _ => ps)) :=
  h.mono fun _ _ ⟨e1, e2⟩ => ⟨(), trivial, e1, e2⟩
theorem el_get {P : Program} {t : TypeId} {z : Value} {sz by_ : Nat} (h : (P.info? t).map (fun i => (i.zero, i.size, i.bytes)) = some (some z, sz, by_)) (hz : z.cells.size = sz) : El P t z sz by_ := by
  cases hi : P.info? t with
  | none => rw [hi] at h; cases h
  | some i =>
    rw [hi] at h
    simp only [Option.map_some, Option.some.injEq, Prod.mk.injEq] at h
    exact ⟨i, hi, h.1, h.2.1, h.2.2, hz⟩
/-- A slice of one's own that is not empty is no nil one, and is no longer than its room. -/
theorem at_some {P : Program} {f : FuncId} {g : World} {F : List HP} {R : Ending → World → Prop} {k : List Item} {T : List Value} {L : List HP} {E sz n c : Nat} {a : Option Addr} {vs : List Value} (i : Nat) (hL : nth L i = some (ownS E sz (.slice a n c) n vs)) (hn : 0 < n) (h : a.isNone = false → n ≤ c → At P f g F R k T L) : At P f g F R k T L :=
  ⟨fun w hS => (h (by rw [(own_some hS i hL).2.2.2.1 hn]; rfl) (own_some hS i hL).1).run w hS⟩
theorem ops_some {P : Program} {g : World} {F : List HP} {T : List Value} {L : List HP} {all rem : List Oper} {K : List Value → List HP → Prop} {E sz n c : Nat} {a : Option Addr} {vs : List Value} (i : Nat) (hL : nth L i = some (ownS E sz (.slice a n c) n vs)) (hn : 0 < n) (h : a.isNone = false → n ≤ c → Ops P g F all K rem T L) : Ops P g F all K rem T L :=
  ⟨fun w hS => (h (by rw [(own_some hS i hL).2.2.2.1 hn]; rfl) (own_some hS i hL).1).run w hS⟩
def byOf (P : Program) (t : TypeId) : Nat := ((P.info? t).map (·.bytes)).getD 0
/-- What a looking up tells. -/
def LookIs (l : List (Int × Value)) (k : Int) (z v : Value) (s : Bool) : Prop := (look k l).getD z = v ∧ (look k l).isSome = s
theorem opx_lookup_is {P : Program} {g : World} {F : List HP} {T : List Value} {L : List HP} {K : List Value → List HP → Prop} {d : Nat} {t ty el : TypeId} {x y : Operand} {pos : String} {after : Array Edge} {gd : Option (Nat × Bool)} {b : Nat} {kd : IntKind} {k : Int} {l : List (Int × Value)} {z v : Value} {s : Bool} (sz by_ i : Nat)
    (hL : nth L i = some (mp b kd l)) (hu : mpTy P t kd el = true) (hE : El P el z sz by_) (hx : ev T x = .map (some b)) (hy : ev T y = .int kd k) (hl : LookIs l k z v s)
    (h : K (T.set d (.tuple #[v, .bool s])) L) : OpX P g F { dst := some d, op := .lookup t x y true, type := ty, pos, after, guard := gd } T L K :=
  opx_lookup i hL hu hE hx hy (by rw [hl.1, hl.2]; exact h)
end Go.Xg

/- cart: marked, sum. -/
namespace Go.Proofs.YthjhkondmobaeaaDoor
open Go.Sl Go.Xg
set_option linter.unusedVariables false
set_option linter.unusedSimpArgs false
set_option maxHeartbeats 4000000
set_option maxRecDepth 100000

/-- The mark's i-th byte. -/
def mkI (i : Nat) : Int := (7 * (i : Int) * (i : Int) + 13 * (i : Int) + 206) % 256
/-- The mark is there. -/
def mkdB (B : List Int) : Bool := (List.range 48).all fun i => B.getD (260 + i) 0 == mkI i
theorem mkdB_t (B : List Int) : mkdB B = true ↔ ∀ i, i < 48 → B.getD (260 + i) 0 = mkI i := by
  simp [mkdB, -List.all_eq_true, List.all_eq]
theorem mkdB_f (B : List Int) (i : Nat) (hi : i < 48) (h : B.getD (260 + i) 0 ≠ mkI i) : mkdB B = false := by
  cases e : mkdB B with
  | false => rfl
  | true => exact absurd ((mkdB_t B).1 e i hi) h
theorem mkq {i : Nat} (h : i < 48) : 0 ≤ 7 * (i : Int) * (i : Int) ∧ 7 * (i : Int) * (i : Int) ≤ 15463 := by
  have h1 : (i : Int) * i ≤ 47 * 47 := Int.mul_le_mul (by omega) (by omega) (by omega) (by omega)
  have h2 : 0 ≤ (i : Int) * i := Int.mul_nonneg (by omega) (by omega)
  rw [Int.mul_assoc]
  omega
/-- The sum of the header's first bytes. -/
def hsum (B : List Int) : Nat → Int
  | 0 => 0
  | i + 1 => hsum B i + B.getD (308 + i) 0
/-- The bytes ahead of the first 0. -/
def tit (xs : List Int) : List Int := xs.takeWhile (fun x => decide (x ≠ 0))
theorem tit_at : ∀ (xs : List Int) (i : Nat), i ≤ xs.length → (∀ k, k < i → xs.getD k 0 ≠ 0) → (i < xs.length → xs.getD i 0 = 0) → tit xs = xs.take i
  | [], i, _, _, _ => by simp [tit]
  | x :: xs, 0, _, _, h2 => by
    have := h2 (by simp)
    simp at this
    subst this
    rfl
  | x :: xs, i + 1, hi, h1, h2 => by
    have hx : x ≠ 0 := by have := h1 0 (by omega); simpa using this
    have ih := tit_at xs i (by simpa using hi) (fun k hk => by have := h1 (k + 1) (by omega); simpa using this) (fun h => by have := h2 (by simpa using h); simpa using this)
    unfold tit at ih ⊢
    rw [List.takeWhile_cons_of_pos (by simpa using hx), ih]
    rfl
theorem marked_d (A : HP) (a : Option Addr) (n c : Nat) (B : List Int) (hn : B.length = n) (hm : 336 ≤ n) (hm2 : n ≤ 9223372036854775807) (hR : Reads A 1 (.slice a n c) n (B.map (Value.int .u8))) : Does Tryd.prog 21 [.slice a n c] [A] (Ret (.bool (mkdB B)) [A]) := by
  (focus
    refine Xg.spec_of Go.Proofs.Tryd.func21 rfl Go.Proofs.Tryd.ntmps21 fun g F => ?_)
  have hno := mkdB_f B
  have hyes : ∀ i, (∀ k, k < i → B.getD (260 + k) 0 = mkI k) → i = 48 → mkdB B = true := fun i h e => (mkdB_t B).2 fun k hk => h k (by omega)
  (focus
    refine Xg.at_seq ?_
    refine Xg.at_region ?_
    refine Xg.ops_op (by kernel_rfl) (Xg.opx_pure ((Value.bool false)) rfl (fun _ => by kernel_rfl) ?_)
    refine Xg.ops_nil ?_
    refine Xg.at_seq ?_
    refine Xg.at_seq ?_
    refine Xg.at_region ?_
    refine Xg.ops_op (by kernel_rfl) (Xg.opx_pure ((iv 0)) rfl (fun _ => by kernel_rfl) ?_)
    refine Xg.ops_nil ?_
    refine Xg.at_block ?_)
  (focus
    refine Xg.at_rounds_inv (α := (Nat) × (Nat → Value)) (fun x => ((fun i => i ≤ 48 ∧ ∀ k, k < i → B.getD (260 + k) 0 = mkI k) : (Nat) → Prop) x.1) (fun x => ((fun i => 48 - i) : (Nat) → Nat) x.1) (fun x => Xg.headT [Value.slice a n c, tu, Value.bool false, tu, iv 0, tu, tu, tu, tu, tu, tu, tu, tu, tu, tu, tu, tu, tu, tu, tu, tu, tu, tu] [2, 3, 5, 6, 7, 8, 9, 10, 11, 12, 13, 14, 15, 16, 17, 18, 19, 20, 21, 22] (((fun i => [(4, .int .i64 (i : Nat))]) : (Nat) → List (Nat × Go.Value)) x.1) x.2) (fun x => ((fun i => [A]) : (Nat) → List Go.Sl.HP) x.1) ((0), fun j9 => ([Value.slice a n c, tu, Value.bool false, tu, iv 0, tu, tu, tu, tu, tu, tu, tu, tu, tu, tu, tu, tu, tu, tu, tu, tu, tu, tu] : List Value).getD j9 undef) (by kernel_rfl) (by kernel_rfl) ?_ ?_)
  · exact ⟨Nat.zero_le _, fun k hk => absurd hk (Nat.not_lt_zero _)⟩
  rintro ⟨i, J⟩ hI ih
  obtain ⟨hi, hne⟩ := hI
  dsimp only at hi hne
  (focus
    refine Xg.At.same (T' := [Value.slice a n c, tu, J 2, J 3, iv (↑i : Int), J 5, J 6, J 7, J 8, J 9, J 10, J 11, J 12, J 13, J 14, J 15, J 16, J 17, J 18, J 19, J 20, J 21, J 22]) (L' := [A]) (by kernel_rfl) rfl ?_)
  by_cases hlt : i < 48
  · have hq := mkq hlt
    have hq1 := hq.1
    have hq2 := hq.2
    have hh := hno i hlt
    have e2 : ((260 : Int) + (i : Int)).toNat = 260 + i := by omega
    by_cases he : B.getD ((260 : Int) + (i : Int)).toNat 0 = ((7 : Int) * (i : Int) * (i : Int) + (13 : Int) * (i : Int) + (206 : Int)) % (256 : Int)
    · (focus
        refine Xg.at_seq ?_
        refine Xg.at_region ?_
        refine Xg.ops_op (by kernel_rfl) (Xg.opx_pure (.bool (decide ((((↑i : Int)) : Int) < ((48 : Int))))) rfl (fun _ => by kernel_rfl) ?_)
        refine Xg.ops_nil ?_
        refine Xg.at_seq ?_
        refine Xg.at_true (t := decide (((↑i : Int) < (48 : Int)))) (by kernel_rfl) (decide_eq_true (by omega)) ?_
        refine Xg.at_skip ?_
        refine Xg.at_seq ?_
        refine Xg.at_block ?_
        refine Xg.at_seq ?_
        refine Xg.at_region ?_
        refine Xg.ops_op (by kernel_rfl) (Xg.opx_pure ((iv (↑i : Int))) rfl (fun _ => by kernel_rfl) ?_)
        refine Xg.ops_op (by kernel_rfl) (Xg.opx_pure ((iv (↑i : Int))) rfl (fun _ => by kernel_rfl) ?_)
        refine Xg.ops_nil ?_
        refine Xg.at_seq ?_
        refine Xg.at_region ?_
        refine Xg.ops_op (by kernel_rfl) (Xg.opx_pure ((Value.slice a n c)) rfl (fun _ => by kernel_rfl) ?_)
        refine Xg.ops_op (by kernel_rfl) (Xg.opx_pure ((iv (↑i : Int))) rfl (fun _ => by kernel_rfl) ?_)
        refine Xg.ops_op (by kernel_rfl) (Xg.opx_int .i64 (IntKind.wrap .i64 (((260 : Int) + (↑i : Int)))) rfl (fun _ => by kernel_rfl) (Xg.wrap_i64_in (by omega)) ?_)
        refine Xg.ops_op (by kernel_rfl) (Xg.opx_rd 0 (.pointer (some (Addr.mk (Xg.blk a) (offA a + ((260 : Int) + (↑i : Int)).toNat) none))) rfl hR (by kernel_rfl) (Xg.run_ix_rd (elem := 5) (kd := .i64) (e := ((260 : Int) + (↑i : Int))) 1 (((260 : Int) + (↑i : Int)).toNat) (offA a + ((260 : Int) + (↑i : Int)).toNat) (by kernel_rfl) (by kernel_rfl) (by kernel_rfl) (by kernel_rfl) (by omega) (by omega) (by simp only [List.length_map]; omega) (by omega)) ?_)
        refine Xg.ops_op (by kernel_rfl) (Xg.opx_rd 0 (uv (B.getD ((260 : Int) + (↑i : Int)).toNat (0 : Int))) rfl hR (by kernel_rfl) (Xg.run_load_rd (off0 := (offA a + ((260 : Int) + (↑i : Int)).toNat)) (((260 : Int) + (↑i : Int)).toNat) (by kernel_rfl) (by omega) (Xg.get_ints (by omega)) (by kernel_rfl)) ?_)
        refine Xg.ops_op (by kernel_rfl) (Xg.opx_pure ((iv (↑i : Int))) rfl (fun _ => by kernel_rfl) ?_)
        refine Xg.ops_op (by kernel_rfl) (Xg.opx_int .i64 (IntKind.wrap .i64 (((7 : Int) * (↑i : Int)))) rfl (fun _ => by kernel_rfl) (Xg.wrap_i64_in (by omega)) ?_)
        refine Xg.ops_op (by kernel_rfl) (Xg.opx_pure ((iv (↑i : Int))) rfl (fun _ => by kernel_rfl) ?_)
        refine Xg.ops_op (by kernel_rfl) (Xg.opx_int .i64 (IntKind.wrap .i64 (((7 : Int) * (↑i : Int) * (↑i : Int)))) rfl (fun _ => by kernel_rfl) (Xg.wrap_i64_in (by omega)) ?_)
        refine Xg.ops_op (by kernel_rfl) (Xg.opx_pure ((iv (↑i : Int))) rfl (fun _ => by kernel_rfl) ?_)
        refine Xg.ops_op (by kernel_rfl) (Xg.opx_int .i64 (IntKind.wrap .i64 (((13 : Int) * (↑i : Int)))) rfl (fun _ => by kernel_rfl) (Xg.wrap_i64_in (by omega)) ?_)
        refine Xg.ops_op (by kernel_rfl) (Xg.opx_int .i64 (IntKind.wrap .i64 (((7 : Int) * (↑i : Int) * (↑i : Int) + (13 : Int) * (↑i : Int)))) rfl (fun _ => by kernel_rfl) (Xg.wrap_i64_in (by omega)) ?_)
        refine Xg.ops_op (by kernel_rfl) (Xg.opx_int .i64 (IntKind.wrap .i64 (((7 : Int) * (↑i : Int) * (↑i : Int) + (13 : Int) * (↑i : Int) + (206 : Int)))) rfl (fun _ => by kernel_rfl) (Xg.wrap_i64_in (by omega)) ?_)
        refine Xg.ops_op (by kernel_rfl) (Xg.opx_int .u8 (IntKind.wrap .u8 (((7 : Int) * (↑i : Int) * (↑i : Int) + (13 : Int) * (↑i : Int) + (206 : Int)))) rfl (fun _ => by kernel_rfl) (Xg.wrap_u8_mod _) ?_)
        refine Xg.ops_op (by kernel_rfl) (Xg.opx_pure (.bool (!decide (((B.getD ((260 : Int) + (↑i : Int)).toNat (0 : Int)) : Int) = (((7 : Int) * (↑i : Int) * (↑i : Int) + (13 : Int) * (↑i : Int) + (206 : Int)) % (256 : Int))))) rfl (fun _ => by kernel_rfl) ?_)
        refine Xg.ops_nil ?_
        refine Xg.at_false (t := !decide ((B.getD ((260 : Int) + (↑i : Int)).toNat (0 : Int) = ((7 : Int) * (↑i : Int) * (↑i : Int) + (13 : Int) * (↑i : Int) + (206 : Int)) % (256 : Int)))) (by kernel_rfl) (by rw [decide_eq_true (by omega)]; rfl) ?_
        refine Xg.at_skip ?_
        refine Xg.at_inBlock ?_
        refine Xg.at_region ?_
        refine Xg.ops_op (by kernel_rfl) (Xg.opx_int .i64 (IntKind.wrap .i64 (((↑i : Int) + (1 : Int)))) rfl (fun _ => by kernel_rfl) (Xg.wrap_i64_in (by omega)) ?_)
        refine Xg.ops_op (by kernel_rfl) (Xg.opx_pure ((iv ((↑i : Int) + (1 : Int)))) rfl (fun _ => by kernel_rfl) ?_)
        refine Xg.ops_nil ?_
        refine Xg.at_inLoop ?_)
      (focus
        refine Xg.at_keep [0] (by kernel_rfl) ?_
        refine Xs.same ?_ (fun J9 => ih (((i + 1)), J9) ?_ ?_) (by kernel_rfl))
      · rfl
      · refine ⟨hlt, fun k hk => ?_⟩
        by_cases e : k = i
        · subst e; rw [e2] at he; exact he
        · exact hne k (by omega)
      · show 48 - (i + 1) < 48 - i; omega
    · have hd := hh (by rw [e2] at he; exact he)
      (focus
        refine Xg.at_seq ?_
        refine Xg.at_region ?_
        refine Xg.ops_op (by kernel_rfl) (Xg.opx_pure (.bool (decide ((((↑i : Int)) : Int) < ((48 : Int))))) rfl (fun _ => by kernel_rfl) ?_)
        refine Xg.ops_nil ?_
        refine Xg.at_seq ?_
        refine Xg.at_true (t := decide (((↑i : Int) < (48 : Int)))) (by kernel_rfl) (decide_eq_true (by omega)) ?_
        refine Xg.at_skip ?_
        refine Xg.at_seq ?_
        refine Xg.at_block ?_
        refine Xg.at_seq ?_
        refine Xg.at_region ?_
        refine Xg.ops_op (by kernel_rfl) (Xg.opx_pure ((iv (↑i : Int))) rfl (fun _ => by kernel_rfl) ?_)
        refine Xg.ops_op (by kernel_rfl) (Xg.opx_pure ((iv (↑i : Int))) rfl (fun _ => by kernel_rfl) ?_)
        refine Xg.ops_nil ?_
        refine Xg.at_seq ?_
        refine Xg.at_region ?_
        refine Xg.ops_op (by kernel_rfl) (Xg.opx_pure ((Value.slice a n c)) rfl (fun _ => by kernel_rfl) ?_)
        refine Xg.ops_op (by kernel_rfl) (Xg.opx_pure ((iv (↑i : Int))) rfl (fun _ => by kernel_rfl) ?_)
        refine Xg.ops_op (by kernel_rfl) (Xg.opx_int .i64 (IntKind.wrap .i64 (((260 : Int) + (↑i : Int)))) rfl (fun _ => by kernel_rfl) (Xg.wrap_i64_in (by omega)) ?_)
        refine Xg.ops_op (by kernel_rfl) (Xg.opx_rd 0 (.pointer (some (Addr.mk (Xg.blk a) (offA a + ((260 : Int) + (↑i : Int)).toNat) none))) rfl hR (by kernel_rfl) (Xg.run_ix_rd (elem := 5) (kd := .i64) (e := ((260 : Int) + (↑i : Int))) 1 (((260 : Int) + (↑i : Int)).toNat) (offA a + ((260 : Int) + (↑i : Int)).toNat) (by kernel_rfl) (by kernel_rfl) (by kernel_rfl) (by kernel_rfl) (by omega) (by omega) (by simp only [List.length_map]; omega) (by omega)) ?_)
        refine Xg.ops_op (by kernel_rfl) (Xg.opx_rd 0 (uv (B.getD ((260 : Int) + (↑i : Int)).toNat (0 : Int))) rfl hR (by kernel_rfl) (Xg.run_load_rd (off0 := (offA a + ((260 : Int) + (↑i : Int)).toNat)) (((260 : Int) + (↑i : Int)).toNat) (by kernel_rfl) (by omega) (Xg.get_ints (by omega)) (by kernel_rfl)) ?_)
        refine Xg.ops_op (by kernel_rfl) (Xg.opx_pure ((iv (↑i : Int))) rfl (fun _ => by kernel_rfl) ?_)
        refine Xg.ops_op (by kernel_rfl) (Xg.opx_int .i64 (IntKind.wrap .i64 (((7 : Int) * (↑i : Int)))) rfl (fun _ => by kernel_rfl) (Xg.wrap_i64_in (by omega)) ?_)
        refine Xg.ops_op (by kernel_rfl) (Xg.opx_pure ((iv (↑i : Int))) rfl (fun _ => by kernel_rfl) ?_)
        refine Xg.ops_op (by kernel_rfl) (Xg.opx_int .i64 (IntKind.wrap .i64 (((7 : Int) * (↑i : Int) * (↑i : Int)))) rfl (fun _ => by kernel_rfl) (Xg.wrap_i64_in (by omega)) ?_)
        refine Xg.ops_op (by kernel_rfl) (Xg.opx_pure ((iv (↑i : Int))) rfl (fun _ => by kernel_rfl) ?_)
        refine Xg.ops_op (by kernel_rfl) (Xg.opx_int .i64 (IntKind.wrap .i64 (((13 : Int) * (↑i : Int)))) rfl (fun _ => by kernel_rfl) (Xg.wrap_i64_in (by omega)) ?_)
        refine Xg.ops_op (by kernel_rfl) (Xg.opx_int .i64 (IntKind.wrap .i64 (((7 : Int) * (↑i : Int) * (↑i : Int) + (13 : Int) * (↑i : Int)))) rfl (fun _ => by kernel_rfl) (Xg.wrap_i64_in (by omega)) ?_)
        refine Xg.ops_op (by kernel_rfl) (Xg.opx_int .i64 (IntKind.wrap .i64 (((7 : Int) * (↑i : Int) * (↑i : Int) + (13 : Int) * (↑i : Int) + (206 : Int)))) rfl (fun _ => by kernel_rfl) (Xg.wrap_i64_in (by omega)) ?_)
        refine Xg.ops_op (by kernel_rfl) (Xg.opx_int .u8 (IntKind.wrap .u8 (((7 : Int) * (↑i : Int) * (↑i : Int) + (13 : Int) * (↑i : Int) + (206 : Int)))) rfl (fun _ => by kernel_rfl) (Xg.wrap_u8_mod _) ?_)
        refine Xg.ops_op (by kernel_rfl) (Xg.opx_pure (.bool (!decide (((B.getD ((260 : Int) + (↑i : Int)).toNat (0 : Int)) : Int) = (((7 : Int) * (↑i : Int) * (↑i : Int) + (13 : Int) * (↑i : Int) + (206 : Int)) % (256 : Int))))) rfl (fun _ => by kernel_rfl) ?_)
        refine Xg.ops_nil ?_
        refine Xg.at_true (t := !decide ((B.getD ((260 : Int) + (↑i : Int)).toNat (0 : Int) = ((7 : Int) * (↑i : Int) * (↑i : Int) + (13 : Int) * (↑i : Int) + (206 : Int)) % (256 : Int)))) (by kernel_rfl) (by rw [decide_eq_false (by omega)]; rfl) ?_
        refine Xg.at_seq ?_
        refine Xg.at_region ?_
        refine Xg.ops_op (by kernel_rfl) (Xg.opx_pure ((Value.bool false)) rfl (fun _ => by kernel_rfl) ?_)
        refine Xg.ops_nil ?_
        refine Xg.at_ret_ps (v := (Value.bool false)) [0] [A] Go.Proofs.Tryd.func21 (fun _ => by kernel_rfl) (by kernel_rfl) (by kernel_rfl) ?_)
      all_goals (rw [hd]; exact ⟨rfl, rfl⟩)
  · have hd := hyes i hne (by omega)
    (focus
      refine Xg.at_seq ?_
      refine Xg.at_region ?_
      refine Xg.ops_op (by kernel_rfl) (Xg.opx_pure (.bool (decide ((((↑i : Int)) : Int) < ((48 : Int))))) rfl (fun _ => by kernel_rfl) ?_)
      refine Xg.ops_nil ?_
      refine Xg.at_seq ?_
      refine Xg.at_false (t := decide (((↑i : Int) < (48 : Int)))) (by kernel_rfl) (decide_eq_false (by omega)) ?_
      refine Xg.at_exit rfl ?_
      refine Xg.at_seq ?_
      refine Xg.at_region ?_
      refine Xg.ops_op (by kernel_rfl) (Xg.opx_pure ((Value.bool true)) rfl (fun _ => by kernel_rfl) ?_)
      refine Xg.ops_nil ?_
      refine Xg.at_ret_ps (v := (Value.bool true)) [0] [A] Go.Proofs.Tryd.func21 (fun _ => by kernel_rfl) (by kernel_rfl) (by kernel_rfl) ?_)
    all_goals (rw [hd]; exact ⟨rfl, rfl⟩)
theorem sum_d (A : HP) (a : Option Addr) (n c : Nat) (B : List Int) (hn : B.length = n) (hm : 336 ≤ n) (hc : n ≤ c) (hm2 : n ≤ 9223372036854775807) (hB : ∀ i, i < n → 0 ≤ B.getD i 0 ∧ B.getD i 0 ≤ 255) (hR : Reads A 1 (.slice a n c) n (B.map (Value.int .u8))) : Does Tryd.prog 22 [.slice a n c] [A] (Ret (.int .u8 ((231 - hsum B 25) % 256)) [A]) := by
  (focus
    refine Xg.spec_of Go.Proofs.Tryd.func22 rfl Go.Proofs.Tryd.ntmps22 fun g F => ?_)
  have hR2 := reads_mid1 hR 308 25 (by omega) hc
  have hl2 : ((B.drop 308).take 25).length = 25 := by rw [List.length_take, List.length_drop]; omega
  have hg2 := mid_getD B 308 25
  obtain ⟨C, hC⟩ : ∃ C, (B.drop 308).take 25 = C := ⟨_, rfl⟩
  rw [hC] at hR2 hl2 hg2
  (focus
    refine Xg.at_seq ?_
    refine Xg.at_region ?_
    refine Xg.ops_op (by kernel_rfl) (Xg.opx_pure ((uv 0)) rfl (fun _ => by kernel_rfl) ?_)
    refine Xg.ops_nil ?_
    refine Xg.at_seq ?_
    refine Xg.at_region ?_
    refine Xg.ops_op (by kernel_rfl) (Xg.opx_pure ((uv 231)) rfl (fun _ => by kernel_rfl) ?_)
    refine Xg.ops_nil ?_
    refine Xg.at_seq ?_
    refine Xg.at_seq ?_
    refine Xg.at_region ?_
    refine Xg.ops_op (by kernel_rfl) (Xg.opx_pure ((Value.slice a n c)) rfl (fun _ => by kernel_rfl) ?_)
    refine Xg.ops_op (by kernel_rfl) (Xg.opx_run (.slice (Xg.subA a c ((308 : Nat)) 1) (((333 : Nat)) - ((308 : Nat))) (c - ((308 : Nat)))) rfl (Xg.run_sl (elem := 5) (a := a) (c := c) (len := n) (k1 := .i64) (k2 := .i64) (e1 := ((308 : Int))) (e2 := ((333 : Int))) 1 ((308 : Nat)) ((333 : Nat)) (by kernel_rfl) (by kernel_rfl) (by kernel_rfl) (by kernel_rfl) (by kernel_rfl) rfl rfl (by omega) (by omega)) ?_)
    refine Xg.ops_op (by kernel_rfl) (Xg.opx_pure ((iv 25)) rfl (fun _ => by kernel_rfl) ?_)
    refine Xg.ops_op (by kernel_rfl) (Xg.opx_pure ((iv 0)) rfl (fun _ => by kernel_rfl) ?_)
    refine Xg.ops_nil ?_
    refine Xg.at_block ?_)
  (focus
    refine Xg.at_rounds_inv (α := (Nat × Int) × (Nat → Value)) (fun x => ((fun x => x.1 ≤ 25 ∧ x.2 = (231 - hsum B x.1) % 256) : (Nat × Int) → Prop) x.1) (fun x => ((fun x => 25 - x.1) : (Nat × Int) → Nat) x.1) (fun x => Xg.headT [Value.slice a n c, tu, uv 0, uv 231, tu, tu, Value.slice a n c, Value.slice (subA a c (308 : Nat) (1 : Nat)) (25 : Nat) (c - (308 : Nat)), iv 25, iv 0, tu, tu, tu, tu, tu, tu, tu, tu] [5, 10, 11, 12, 13, 14, 15, 16] (((fun x => [(9, .int .i64 (x.1 : Nat)), (3, .int .u8 x.2)]) : (Nat × Int) → List (Nat × Go.Value)) x.1) x.2) (fun x => ((fun x => [A]) : (Nat × Int) → List Go.Sl.HP) x.1) (((0, 231)), fun j9 => ([Value.slice a n c, tu, uv 0, uv 231, tu, tu, Value.slice a n c, Value.slice (subA a c (308 : Nat) (1 : Nat)) (25 : Nat) (c - (308 : Nat)), iv 25, iv 0, tu, tu, tu, tu, tu, tu, tu, tu] : List Value).getD j9 undef) (by kernel_rfl) (by kernel_rfl) ?_ ?_)
  · exact ⟨Nat.zero_le _, rfl⟩
  rintro ⟨⟨i, t⟩, J⟩ hI ih
  obtain ⟨hi, ht⟩ := hI
  dsimp only at hi ht
  (focus
    refine Xg.At.same (T' := [Value.slice a n c, tu, uv 0, uv t, tu, J 5, Value.slice a n c, Value.slice (subA a c (308 : Nat) (1 : Nat)) (25 : Nat) (c - (308 : Nat)), iv 25, iv (↑i : Int), J 10, J 11, J 12, J 13, J 14, J 15, J 16, tu]) (L' := [A]) (by kernel_rfl) rfl ?_)
  by_cases hlt : i < 25
  · have hb := hB (308 + i) (by omega)
    have hs : hsum B (i + 1) = hsum B i + B.getD (308 + i) 0 := rfl
    have hg := hg2 i hlt
    (focus
      refine Xg.at_seq ?_
      refine Xg.at_region ?_
      refine Xg.ops_op (by kernel_rfl) (Xg.opx_pure (.bool (decide ((((↑i : Int)) : Int) < ((25 : Int))))) rfl (fun _ => by kernel_rfl) ?_)
      refine Xg.ops_nil ?_
      refine Xg.at_seq ?_
      refine Xg.at_true (t := decide (((↑i : Int) < (25 : Int)))) (by kernel_rfl) (decide_eq_true (by omega)) ?_
      refine Xg.at_skip ?_
      refine Xg.at_seq ?_
      refine Xg.at_block ?_
      refine Xg.at_seq ?_
      refine Xg.at_region ?_
      refine Xg.ops_op (by kernel_rfl) (Xg.opx_rd 0 (.pointer (some (Addr.mk (Xg.blk (subA a c (308 : Nat) (1 : Nat))) (offA (subA a c (308 : Nat) (1 : Nat)) + i) none))) rfl hR2 (by kernel_rfl) (Xg.run_ix_rd (elem := 5) (kd := .i64) (e := ((↑i : Int))) 1 i (offA (subA a c (308 : Nat) (1 : Nat)) + i) (by kernel_rfl) (by kernel_rfl) (by kernel_rfl) (by kernel_rfl) rfl (by omega) (by simp only [List.length_map]; omega) (by omega)) ?_)
      refine Xg.ops_op (by kernel_rfl) (Xg.opx_rd 0 (uv (C.getD i (0 : Int))) rfl hR2 (by kernel_rfl) (Xg.run_load_rd (off0 := (offA (subA a c (308 : Nat) (1 : Nat)) + i)) i (by kernel_rfl) (by omega) (Xg.get_ints (by omega)) (by kernel_rfl)) ?_)
      refine Xg.ops_op (by kernel_rfl) (Xg.opx_pure ((uv (C.getD i (0 : Int)))) rfl (fun _ => by kernel_rfl) ?_)
      refine Xg.ops_nil ?_
      refine Xg.at_region ?_
      refine Xg.ops_op (by kernel_rfl) (Xg.opx_pure ((uv t)) rfl (fun _ => by kernel_rfl) ?_)
      refine Xg.ops_op (by kernel_rfl) (Xg.opx_pure ((uv (C.getD i (0 : Int)))) rfl (fun _ => by kernel_rfl) ?_)
      refine Xg.ops_op (by kernel_rfl) (Xg.opx_int .u8 (IntKind.wrap .u8 ((t - C.getD i (0 : Int)))) rfl (fun _ => by kernel_rfl) (Xg.wrap_u8_mod _) ?_)
      refine Xg.ops_op (by kernel_rfl) (Xg.opx_pure ((uv ((t - C.getD i (0 : Int)) % (256 : Int)))) rfl (fun _ => by kernel_rfl) ?_)
      refine Xg.ops_nil ?_
      refine Xg.at_inBlock ?_
      refine Xg.at_region ?_
      refine Xg.ops_op (by kernel_rfl) (Xg.opx_int .i64 (IntKind.wrap .i64 (((↑i : Int) + (1 : Int)))) rfl (fun _ => by kernel_rfl) (Xg.wrap_i64_in (by omega)) ?_)
      refine Xg.ops_op (by kernel_rfl) (Xg.opx_pure ((iv ((↑i : Int) + (1 : Int)))) rfl (fun _ => by kernel_rfl) ?_)
      refine Xg.ops_nil ?_
      refine Xg.at_inLoop ?_)
    (focus
      refine Xg.at_keep [0] (by kernel_rfl) ?_
      refine Xs.same ?_ (fun J9 => ih (((i + 1, ((t - C.getD i 0) % 256))), J9) ?_ ?_) (by kernel_rfl))
    · rfl
    · refine ⟨hlt, ?_⟩
      show (t - C.getD i 0) % 256 = (231 - hsum B (i + 1)) % 256
      rw [hs]; omega
    · show 25 - (i + 1) < 25 - i; omega
  · obtain rfl : i = 25 := by omega
    subst ht
    (focus
      refine Xg.at_seq ?_
      refine Xg.at_region ?_
      refine Xg.ops_op (by kernel_rfl) (Xg.opx_pure ((Value.bool false)) rfl (fun _ => by kernel_rfl) ?_)
      refine Xg.ops_nil ?_
      refine Xg.at_seq ?_
      refine Xg.at_false (t := false) (by kernel_rfl) rfl ?_
      refine Xg.at_exit rfl ?_
      refine Xg.at_seq ?_
      refine Xg.at_region ?_
      refine Xg.ops_op (by kernel_rfl) (Xg.opx_pure ((uv (((231 : Int) - hsum B (25 : Nat)) % (256 : Int)))) rfl (fun _ => by kernel_rfl) ?_)
      refine Xg.ops_op (by kernel_rfl) (Xg.opx_pure ((uv (((231 : Int) - hsum B (25 : Nat)) % (256 : Int)))) rfl (fun _ => by kernel_rfl) ?_)
      refine Xg.ops_nil ?_
      refine Xg.at_ret_ps (v := (uv (((231 : Int) - hsum B (25 : Nat)) % (256 : Int)))) [0] [A] Go.Proofs.Tryd.func22 (fun _ => by kernel_rfl) (by kernel_rfl) (by kernel_rfl) ?_
      exact ⟨by kernel_rfl, by kernel_rfl⟩)
theorem title_d (A : HP) (a : Option Addr) (n c : Nat) (xs : List Int) (hn : xs.length = n) (hm : n ≤ 100) (hc : n ≤ c) (hB : isB xs) (hR : Reads A 1 (.slice a n c) n (xs.map (Value.int .u8))) : Does Tryd.prog 24 [.slice a n c] [A] (Ret (.string (St (tit xs))) [A]) := by
  (focus
    refine Xg.spec_of Go.Proofs.Tryd.func24 rfl Go.Proofs.Tryd.ntmps24 fun g F => ?_)
  (focus
    refine Xg.at_seq ?_
    refine Xg.at_region ?_
    refine Xg.ops_op (by kernel_rfl) (Xg.opx_pure ((Value.string (ByteArray.mk #[]))) rfl (fun _ => by kernel_rfl) ?_)
    refine Xg.ops_nil ?_
    refine Xg.at_seq ?_
    refine Xg.at_seq ?_
    refine Xg.at_region ?_
    refine Xg.ops_op (by kernel_rfl) (Xg.opx_pure ((Value.slice a n c)) rfl (fun _ => by kernel_rfl) ?_)
    refine Xg.ops_op (by kernel_rfl) (Xg.opx_pure ((iv (↑n : Int))) rfl (fun _ => by kernel_rfl) ?_)
    refine Xg.ops_op (by kernel_rfl) (Xg.opx_pure ((iv 0)) rfl (fun _ => by kernel_rfl) ?_)
    refine Xg.ops_nil ?_
    refine Xg.at_block ?_)
  (focus
    refine Xg.at_rounds_inv (α := (Nat) × (Nat → Value)) (fun x => ((fun i => i ≤ n ∧ ∀ k, k < i → xs.getD k 0 ≠ 0) : (Nat) → Prop) x.1) (fun x => ((fun i => n - i) : (Nat) → Nat) x.1) (fun x => Xg.headT [Value.slice a n c, tu, Value.string (ByteArray.mk #[]), tu, tu, Value.slice a n c, iv (↑n : Int), iv 0, tu, tu, tu, tu, tu, tu, tu, tu, tu, tu, tu, tu, tu] [2, 3, 4, 8, 9, 10, 11, 12, 13, 14, 15, 16, 17, 18] (((fun i => [(7, .int .i64 (i : Nat))]) : (Nat) → List (Nat × Go.Value)) x.1) x.2) (fun x => ((fun i => [A]) : (Nat) → List Go.Sl.HP) x.1) ((0), fun j9 => ([Value.slice a n c, tu, Value.string (ByteArray.mk #[]), tu, tu, Value.slice a n c, iv (↑n : Int), iv 0, tu, tu, tu, tu, tu, tu, tu, tu, tu, tu, tu, tu, tu] : List Value).getD j9 undef) (by kernel_rfl) (by kernel_rfl) ?_ ?_)
  · exact ⟨Nat.zero_le _, fun k hk => absurd hk (Nat.not_lt_zero _)⟩
  rintro ⟨i, J⟩ hI ih
  obtain ⟨hi, hne⟩ := hI
  dsimp only at hi hne
  (focus
    refine Xg.At.same (T' := [Value.slice a n c, tu, J 2, J 3, J 4, Value.slice a n c, iv (↑n : Int), iv (↑i : Int), J 8, J 9, J 10, J 11, J 12, J 13, J 14, J 15, J 16, J 17, J 18, tu, tu]) (L' := [A]) (by kernel_rfl) rfl ?_)
  have hb := @isB_get xs hB i
  by_cases hlt : i < n
  · by_cases he : xs.getD i 0 = 0
    · have ht := tit_at xs i (by omega) hne (fun _ => he)
      have hR2 := reads_pre1 hR i (by omega)
      have hB2 := isB_take i hB
      obtain ⟨C, hC⟩ : ∃ C, xs.take i = C := ⟨_, rfl⟩
      rw [hC] at hR2 hB2 ht
      (focus
        refine Xg.at_seq ?_
        refine Xg.at_region ?_
        refine Xg.ops_op (by kernel_rfl) (Xg.opx_pure (.bool (decide ((((↑i : Int)) : Int) < ((↑n : Int))))) rfl (fun _ => by kernel_rfl) ?_)
        refine Xg.ops_nil ?_
        refine Xg.at_seq ?_
        refine Xg.at_true (t := decide (((↑i : Int) < (↑n : Int)))) (by kernel_rfl) (decide_eq_true (by omega)) ?_
        refine Xg.at_skip ?_
        refine Xg.at_seq ?_
        refine Xg.at_block ?_
        refine Xg.at_seq ?_
        refine Xg.at_region ?_
        refine Xg.ops_op (by kernel_rfl) (Xg.opx_pure ((iv (↑i : Int))) rfl (fun _ => by kernel_rfl) ?_)
        refine Xg.ops_op (by kernel_rfl) (Xg.opx_rd 0 (.pointer (some (Addr.mk (Xg.blk a) (offA a + i) none))) rfl hR (by kernel_rfl) (Xg.run_ix_rd (elem := 5) (kd := .i64) (e := ((↑i : Int))) 1 i (offA a + i) (by kernel_rfl) (by kernel_rfl) (by kernel_rfl) (by kernel_rfl) rfl (by omega) (by simp only [List.length_map]; omega) (by omega)) ?_)
        refine Xg.ops_op (by kernel_rfl) (Xg.opx_rd 0 (uv (xs.getD i (0 : Int))) rfl hR (by kernel_rfl) (Xg.run_load_rd (off0 := (offA a + i)) i (by kernel_rfl) (by omega) (Xg.get_ints (by omega)) (by kernel_rfl)) ?_)
        refine Xg.ops_op (by kernel_rfl) (Xg.opx_pure ((iv (↑i : Int))) rfl (fun _ => by kernel_rfl) ?_)
        refine Xg.ops_op (by kernel_rfl) (Xg.opx_pure ((uv (xs.getD i (0 : Int)))) rfl (fun _ => by kernel_rfl) ?_)
        refine Xg.ops_nil ?_
        refine Xg.at_seq ?_
        refine Xg.at_region ?_
        refine Xg.ops_op (by kernel_rfl) (Xg.opx_pure ((uv (xs.getD i (0 : Int)))) rfl (fun _ => by kernel_rfl) ?_)
        refine Xg.ops_op (by kernel_rfl) (Xg.opx_pure (.bool (decide (((xs.getD i (0 : Int)) : Int) = ((0 : Int))))) rfl (fun _ => by kernel_rfl) ?_)
        refine Xg.ops_nil ?_
        refine Xg.at_true (t := decide ((xs.getD i (0 : Int) = (0 : Int)))) (by kernel_rfl) (decide_eq_true (by omega)) ?_
        refine Xg.at_seq ?_
        refine Xg.at_region ?_
        refine Xg.ops_op (by kernel_rfl) (Xg.opx_pure ((Value.slice a n c)) rfl (fun _ => by kernel_rfl) ?_)
        refine Xg.ops_op (by kernel_rfl) (Xg.opx_pure ((iv (↑i : Int))) rfl (fun _ => by kernel_rfl) ?_)
        refine Xg.ops_op (by kernel_rfl) (Xg.opx_run (.slice a i c) rfl (Xg.run_sl_hi (elem := 5) (a := a) (c := c) (len := n) (k2 := .i64) (e2 := ((↑i : Int))) 1 i (by kernel_rfl) (by kernel_rfl) (by kernel_rfl) (by kernel_rfl) rfl (by omega)) ?_)
        refine Xg.ops_op (by kernel_rfl) (Xg.opx_rd 0 (.string (Xg.St C)) rfl hR2 (by kernel_rfl) (Xg.run_str_rd (e := 5) (a := a) (n := i) (c := c) (xs := C) (by kernel_rfl) (by kernel_rfl) (by kernel_rfl) (by kernel_rfl)) ?_)
        refine Xg.ops_op (by kernel_rfl) (Xg.opx_pure ((Value.string (St C))) rfl (fun _ => by kernel_rfl) ?_)
        refine Xg.ops_nil ?_
        refine Xg.at_ret_ps (v := (Value.string (St C))) [0] [A] Go.Proofs.Tryd.func24 (fun _ => by kernel_rfl) (by kernel_rfl) (by kernel_rfl) ?_)
      all_goals (rw [ht]; exact ⟨rfl, rfl⟩)
    · (focus
        refine Xg.at_seq ?_
        refine Xg.at_region ?_
        refine Xg.ops_op (by kernel_rfl) (Xg.opx_pure (.bool (decide ((((↑i : Int)) : Int) < ((↑n : Int))))) rfl (fun _ => by kernel_rfl) ?_)
        refine Xg.ops_nil ?_
        refine Xg.at_seq ?_
        refine Xg.at_true (t := decide (((↑i : Int) < (↑n : Int)))) (by kernel_rfl) (decide_eq_true (by omega)) ?_
        refine Xg.at_skip ?_
        refine Xg.at_seq ?_
        refine Xg.at_block ?_
        refine Xg.at_seq ?_
        refine Xg.at_region ?_
        refine Xg.ops_op (by kernel_rfl) (Xg.opx_pure ((iv (↑i : Int))) rfl (fun _ => by kernel_rfl) ?_)
        refine Xg.ops_op (by kernel_rfl) (Xg.opx_rd 0 (.pointer (some (Addr.mk (Xg.blk a) (offA a + i) none))) rfl hR (by kernel_rfl) (Xg.run_ix_rd (elem := 5) (kd := .i64) (e := ((↑i : Int))) 1 i (offA a + i) (by kernel_rfl) (by kernel_rfl) (by kernel_rfl) (by kernel_rfl) rfl (by omega) (by simp only [List.length_map]; omega) (by omega)) ?_)
        refine Xg.ops_op (by kernel_rfl) (Xg.opx_rd 0 (uv (xs.getD i (0 : Int))) rfl hR (by kernel_rfl) (Xg.run_load_rd (off0 := (offA a + i)) i (by kernel_rfl) (by omega) (Xg.get_ints (by omega)) (by kernel_rfl)) ?_)
        refine Xg.ops_op (by kernel_rfl) (Xg.opx_pure ((iv (↑i : Int))) rfl (fun _ => by kernel_rfl) ?_)
        refine Xg.ops_op (by kernel_rfl) (Xg.opx_pure ((uv (xs.getD i (0 : Int)))) rfl (fun _ => by kernel_rfl) ?_)
        refine Xg.ops_nil ?_
        refine Xg.at_seq ?_
        refine Xg.at_region ?_
        refine Xg.ops_op (by kernel_rfl) (Xg.opx_pure ((uv (xs.getD i (0 : Int)))) rfl (fun _ => by kernel_rfl) ?_)
        refine Xg.ops_op (by kernel_rfl) (Xg.opx_pure (.bool (decide (((xs.getD i (0 : Int)) : Int) = ((0 : Int))))) rfl (fun _ => by kernel_rfl) ?_)
        refine Xg.ops_nil ?_
        refine Xg.at_false (t := decide ((xs.getD i (0 : Int) = (0 : Int)))) (by kernel_rfl) (decide_eq_false (by omega)) ?_
        refine Xg.at_skip ?_
        refine Xg.at_inBlock ?_
        refine Xg.at_region ?_
        refine Xg.ops_op (by kernel_rfl) (Xg.opx_int .i64 (IntKind.wrap .i64 (((↑i : Int) + (1 : Int)))) rfl (fun _ => by kernel_rfl) (Xg.wrap_i64_in (by omega)) ?_)
        refine Xg.ops_op (by kernel_rfl) (Xg.opx_pure ((iv ((↑i : Int) + (1 : Int)))) rfl (fun _ => by kernel_rfl) ?_)
        refine Xg.ops_nil ?_
        refine Xg.at_inLoop ?_)
      (focus
        refine Xg.at_keep [0] (by kernel_rfl) ?_
        refine Xs.same ?_ (fun J9 => ih (((i + 1)), J9) ?_ ?_) (by kernel_rfl))
      · rfl
      · refine ⟨hlt, fun k hk => ?_⟩
        by_cases e : k = i
        · subst e; exact he
        · exact hne k (by omega)
      · show n - (i + 1) < n - i; omega
  · have ht := tit_at xs i (by omega) hne (fun h => by omega)
    obtain rfl : i = n := by omega
    rw [← hn, List.take_length] at ht
    (focus
      refine Xg.at_seq ?_
      refine Xg.at_region ?_
      refine Xg.ops_op (by kernel_rfl) (Xg.opx_pure (.bool (decide ((((↑i : Int)) : Int) < ((↑i : Int))))) rfl (fun _ => by kernel_rfl) ?_)
      refine Xg.ops_nil ?_
      refine Xg.at_seq ?_
      refine Xg.at_false (t := decide (((↑i : Int) < (↑i : Int)))) (by kernel_rfl) (decide_eq_false (by omega)) ?_
      refine Xg.at_exit rfl ?_
      refine Xg.at_seq ?_
      refine Xg.at_region ?_
      refine Xg.ops_op (by kernel_rfl) (Xg.opx_pure ((Value.slice a i c)) rfl (fun _ => by kernel_rfl) ?_)
      refine Xg.ops_op (by kernel_rfl) (Xg.opx_rd 0 (.string (Xg.St xs)) rfl hR (by kernel_rfl) (Xg.run_str_rd (e := 5) (a := a) (n := i) (c := c) (xs := xs) (by kernel_rfl) (by kernel_rfl) (by kernel_rfl) (by kernel_rfl)) ?_)
      refine Xg.ops_op (by kernel_rfl) (Xg.opx_pure ((Value.string (St xs))) rfl (fun _ => by kernel_rfl) ?_)
      refine Xg.ops_nil ?_
      refine Xg.at_ret_ps (v := (Value.string (St xs))) [0] [A] Go.Proofs.Tryd.func24 (fun _ => by kernel_rfl) (by kernel_rfl) (by kernel_rfl) ?_)
    all_goals (rw [ht]; exact ⟨rfl, rfl⟩)
end Go.Proofs.YthjhkondmobaeaaDoor
