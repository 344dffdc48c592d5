import Derived.Test.YtijjficnhpokdaaMAll10
/- The sched package: slices.Repeat of one number, up to eight times. -/
namespace Go.Proofs.Ytijjficnhpokdaa
open Go.Sl Go.Xg
set_option linter.unusedVariables false
set_option linter.unusedSimpArgs false
set_option maxHeartbeats 4000000
set_option maxRecDepth 100000

theorem mul64_1 : Does Try.prog 47 [.int .u64 1, .int .u64 1] [] (Ret (.tuple #[.int .u64 0, .int .u64 1]) []) := by
  (focus
    refine Xg.spec_of Go.Proofs.Try.func47 rfl Go.Proofs.Try.ntmps47 fun g F => ?_)
  (focus
    refine Xg.at_seq ?_
    refine Xg.at_region ?_
    refine Xg.ops_op (by kernel_rfl) (Xg.opx_pure ((Value.int IntKind.u64 (0 : Int))) rfl (fun _ => by kernel_rfl) ?_)
    refine Xg.ops_op (by kernel_rfl) (Xg.opx_pure ((Value.int IntKind.u64 (0 : Int))) rfl (fun _ => by kernel_rfl) ?_)
    refine Xg.ops_nil ?_
    refine Xg.at_seq ?_
    refine Xg.at_region ?_
    refine Xg.ops_op (by kernel_rfl) (Xg.opx_pure ((Value.int IntKind.u64 (1 : Int))) rfl (fun _ => by kernel_rfl) ?_)
    refine Xg.ops_op (by kernel_rfl) (Xg.opx_pure ((Value.int IntKind.u64 (1 : Int))) rfl (fun _ => by kernel_rfl) ?_)
    refine Xg.ops_op (by kernel_rfl) (Xg.opx_pure ((Value.int IntKind.u64 (1 : Int))) rfl (fun _ => by kernel_rfl) ?_)
    refine Xg.ops_nil ?_
    refine Xg.at_seq ?_
    refine Xg.at_region ?_
    refine Xg.ops_op (by kernel_rfl) (Xg.opx_pure ((Value.int IntKind.u64 (1 : Int))) rfl (fun _ => by kernel_rfl) ?_)
    refine Xg.ops_op (by kernel_rfl) (Xg.opx_pure ((Value.int IntKind.u64 (0 : Int))) rfl (fun _ => by kernel_rfl) ?_)
    refine Xg.ops_op (by kernel_rfl) (Xg.opx_pure ((Value.int IntKind.u64 (0 : Int))) rfl (fun _ => by kernel_rfl) ?_)
    refine Xg.ops_nil ?_
    refine Xg.at_seq ?_
    refine Xg.at_region ?_
    refine Xg.ops_op (by kernel_rfl) (Xg.opx_pure ((Value.int IntKind.u64 (1 : Int))) rfl (fun _ => by kernel_rfl) ?_)
    refine Xg.ops_op (by kernel_rfl) (Xg.opx_pure ((Value.int IntKind.u64 (1 : Int))) rfl (fun _ => by kernel_rfl) ?_)
    refine Xg.ops_op (by kernel_rfl) (Xg.opx_pure ((Value.int IntKind.u64 (1 : Int))) rfl (fun _ => by kernel_rfl) ?_)
    refine Xg.ops_nil ?_
    refine Xg.at_seq ?_
    refine Xg.at_region ?_
    refine Xg.ops_op (by kernel_rfl) (Xg.opx_pure ((Value.int IntKind.u64 (1 : Int))) rfl (fun _ => by kernel_rfl) ?_)
    refine Xg.ops_op (by kernel_rfl) (Xg.opx_pure ((Value.int IntKind.u64 (0 : Int))) rfl (fun _ => by kernel_rfl) ?_)
    refine Xg.ops_op (by kernel_rfl) (Xg.opx_pure ((Value.int IntKind.u64 (0 : Int))) rfl (fun _ => by kernel_rfl) ?_)
    refine Xg.ops_nil ?_
    refine Xg.at_seq ?_
    refine Xg.at_region ?_
    refine Xg.ops_op (by kernel_rfl) (Xg.opx_pure ((Value.int IntKind.u64 (1 : Int))) rfl (fun _ => by kernel_rfl) ?_)
    refine Xg.ops_op (by kernel_rfl) (Xg.opx_pure ((Value.int IntKind.u64 (1 : Int))) rfl (fun _ => by kernel_rfl) ?_)
    refine Xg.ops_op (by kernel_rfl) (Xg.opx_pure ((Value.int IntKind.u64 (1 : Int))) rfl (fun _ => by kernel_rfl) ?_)
    refine Xg.ops_op (by kernel_rfl) (Xg.opx_pure ((Value.int IntKind.u64 (1 : Int))) rfl (fun _ => by kernel_rfl) ?_)
    refine Xg.ops_nil ?_
    refine Xg.at_seq ?_
    refine Xg.at_region ?_
    refine Xg.ops_op (by kernel_rfl) (Xg.opx_pure ((Value.int IntKind.u64 (0 : Int))) rfl (fun _ => by kernel_rfl) ?_)
    refine Xg.ops_op (by kernel_rfl) (Xg.opx_pure ((Value.int IntKind.u64 (1 : Int))) rfl (fun _ => by kernel_rfl) ?_)
    refine Xg.ops_op (by kernel_rfl) (Xg.opx_pure ((Value.int IntKind.u64 (0 : Int))) rfl (fun _ => by kernel_rfl) ?_)
    refine Xg.ops_op (by kernel_rfl) (Xg.opx_pure ((Value.int IntKind.u64 (1 : Int))) rfl (fun _ => by kernel_rfl) ?_)
    refine Xg.ops_op (by kernel_rfl) (Xg.opx_pure ((Value.int IntKind.u64 (0 : Int))) rfl (fun _ => by kernel_rfl) ?_)
    refine Xg.ops_op (by kernel_rfl) (Xg.opx_pure ((Value.int IntKind.u64 (0 : Int))) rfl (fun _ => by kernel_rfl) ?_)
    refine Xg.ops_op (by kernel_rfl) (Xg.opx_pure ((Value.int IntKind.u64 (0 : Int))) rfl (fun _ => by kernel_rfl) ?_)
    refine Xg.ops_nil ?_
    refine Xg.at_seq ?_
    refine Xg.at_region ?_
    refine Xg.ops_op (by kernel_rfl) (Xg.opx_pure ((Value.int IntKind.u64 (0 : Int))) rfl (fun _ => by kernel_rfl) ?_)
    refine Xg.ops_op (by kernel_rfl) (Xg.opx_pure ((Value.int IntKind.u64 (0 : Int))) rfl (fun _ => by kernel_rfl) ?_)
    refine Xg.ops_op (by kernel_rfl) (Xg.opx_pure ((Value.int IntKind.u64 (0 : Int))) rfl (fun _ => by kernel_rfl) ?_)
    refine Xg.ops_nil ?_
    refine Xg.at_seq ?_
    refine Xg.at_region ?_
    refine Xg.ops_op (by kernel_rfl) (Xg.opx_pure ((Value.int IntKind.u64 (0 : Int))) rfl (fun _ => by kernel_rfl) ?_)
    refine Xg.ops_op (by kernel_rfl) (Xg.opx_pure ((Value.int IntKind.u64 (0 : Int))) rfl (fun _ => by kernel_rfl) ?_)
    refine Xg.ops_op (by kernel_rfl) (Xg.opx_pure ((Value.int IntKind.u64 (0 : Int))) rfl (fun _ => by kernel_rfl) ?_)
    refine Xg.ops_nil ?_
    refine Xg.at_seq ?_
    refine Xg.at_region ?_
    refine Xg.ops_op (by kernel_rfl) (Xg.opx_pure ((Value.int IntKind.u64 (0 : Int))) rfl (fun _ => by kernel_rfl) ?_)
    refine Xg.ops_op (by kernel_rfl) (Xg.opx_pure ((Value.int IntKind.u64 (1 : Int))) rfl (fun _ => by kernel_rfl) ?_)
    refine Xg.ops_op (by kernel_rfl) (Xg.opx_pure ((Value.int IntKind.u64 (0 : Int))) rfl (fun _ => by kernel_rfl) ?_)
    refine Xg.ops_op (by kernel_rfl) (Xg.opx_pure ((Value.int IntKind.u64 (0 : Int))) rfl (fun _ => by kernel_rfl) ?_)
    refine Xg.ops_op (by kernel_rfl) (Xg.opx_pure ((Value.int IntKind.u64 (0 : Int))) rfl (fun _ => by kernel_rfl) ?_)
    refine Xg.ops_op (by kernel_rfl) (Xg.opx_pure ((Value.int IntKind.u64 (0 : Int))) rfl (fun _ => by kernel_rfl) ?_)
    refine Xg.ops_nil ?_
    refine Xg.at_seq ?_
    refine Xg.at_region ?_
    refine Xg.ops_op (by kernel_rfl) (Xg.opx_pure ((Value.int IntKind.u64 (0 : Int))) rfl (fun _ => by kernel_rfl) ?_)
    refine Xg.ops_op (by kernel_rfl) (Xg.opx_pure ((Value.int IntKind.u64 (0 : Int))) rfl (fun _ => by kernel_rfl) ?_)
    refine Xg.ops_op (by kernel_rfl) (Xg.opx_pure ((Value.int IntKind.u64 (0 : Int))) rfl (fun _ => by kernel_rfl) ?_)
    refine Xg.ops_op (by kernel_rfl) (Xg.opx_pure ((Value.int IntKind.u64 (0 : Int))) rfl (fun _ => by kernel_rfl) ?_)
    refine Xg.ops_op (by kernel_rfl) (Xg.opx_pure ((Value.int IntKind.u64 (0 : Int))) rfl (fun _ => by kernel_rfl) ?_)
    refine Xg.ops_op (by kernel_rfl) (Xg.opx_pure ((Value.int IntKind.u64 (0 : Int))) rfl (fun _ => by kernel_rfl) ?_)
    refine Xg.ops_op (by kernel_rfl) (Xg.opx_pure ((Value.int IntKind.u64 (0 : Int))) rfl (fun _ => by kernel_rfl) ?_)
    refine Xg.ops_op (by kernel_rfl) (Xg.opx_pure ((Value.int IntKind.u64 (0 : Int))) rfl (fun _ => by kernel_rfl) ?_)
    refine Xg.ops_op (by kernel_rfl) (Xg.opx_pure ((Value.int IntKind.u64 (0 : Int))) rfl (fun _ => by kernel_rfl) ?_)
    refine Xg.ops_nil ?_
    refine Xg.at_seq ?_
    refine Xg.at_region ?_
    refine Xg.ops_op (by kernel_rfl) (Xg.opx_pure ((Value.int IntKind.u64 (1 : Int))) rfl (fun _ => by kernel_rfl) ?_)
    refine Xg.ops_op (by kernel_rfl) (Xg.opx_pure ((Value.int IntKind.u64 (1 : Int))) rfl (fun _ => by kernel_rfl) ?_)
    refine Xg.ops_op (by kernel_rfl) (Xg.opx_pure ((Value.int IntKind.u64 (1 : Int))) rfl (fun _ => by kernel_rfl) ?_)
    refine Xg.ops_op (by kernel_rfl) (Xg.opx_pure ((Value.int IntKind.u64 (1 : Int))) rfl (fun _ => by kernel_rfl) ?_)
    refine Xg.ops_nil ?_
    refine Xg.at_ret_ps (v := (Value.tuple #[Value.int IntKind.u64 (0 : Int), Value.int IntKind.u64 (1 : Int)])) [] [] Go.Proofs.Try.func47 (fun _ => by kernel_rfl) (by kernel_rfl) (by kernel_rfl) ?_
    exact ⟨by kernel_rfl, by kernel_rfl⟩)
theorem mul_1 : Does Try.prog 45 [.int .u64 1, .int .u64 1] [] (Ret (.tuple #[.int .u64 0, .int .u64 1]) []) := by
  (focus
    refine Xg.spec_of Go.Proofs.Try.func45 rfl Go.Proofs.Try.ntmps45 fun g F => ?_)
  (focus
    refine Xg.at_seq ?_
    refine Xg.at_region ?_
    refine Xg.ops_op (by kernel_rfl) (Xg.opx_pure ((Value.int IntKind.u64 (0 : Int))) rfl (fun _ => by kernel_rfl) ?_)
    refine Xg.ops_op (by kernel_rfl) (Xg.opx_pure ((Value.int IntKind.u64 (0 : Int))) rfl (fun _ => by kernel_rfl) ?_)
    refine Xg.ops_nil ?_
    refine Xg.at_seq ?_
    refine Xg.at_false (t := false) (by kernel_rfl) rfl ?_
    refine Xg.at_skip ?_
    refine Xg.at_seq ?_
    refine Xg.at_region ?_
    refine Xg.ops_op (by kernel_rfl) (Xg.opx_pure ((Value.int IntKind.u64 (1 : Int))) rfl (fun _ => by kernel_rfl) ?_)
    refine Xg.ops_op (by kernel_rfl) (Xg.opx_pure ((Value.int IntKind.u64 (1 : Int))) rfl (fun _ => by kernel_rfl) ?_)
    refine Xg.ops_op (by kernel_rfl) (Xg.opx_call1' [] [] (fun _ => by kernel_rfl) (@Go.Proofs.Ytijjficnhpokdaa.mul64_1 ) (by kernel_rfl) (by kernel_rfl) (by kernel_rfl) ?_)
    refine Xg.ops_op (by kernel_rfl) (Xg.opx_pure ((Value.tuple #[Value.int IntKind.u64 (0 : Int), Value.int IntKind.u64 (1 : Int)])) rfl (fun _ => by kernel_rfl) ?_)
    refine Xg.ops_op (by kernel_rfl) (Xg.opx_pure ((Value.int IntKind.u64 (0 : Int))) rfl (fun _ => by kernel_rfl) ?_)
    refine Xg.ops_op (by kernel_rfl) (Xg.opx_pure ((Value.int IntKind.u64 (1 : Int))) rfl (fun _ => by kernel_rfl) ?_)
    refine Xg.ops_op (by kernel_rfl) (Xg.opx_pure ((Value.int IntKind.u64 (0 : Int))) rfl (fun _ => by kernel_rfl) ?_)
    refine Xg.ops_op (by kernel_rfl) (Xg.opx_pure ((Value.int IntKind.u64 (1 : Int))) rfl (fun _ => by kernel_rfl) ?_)
    refine Xg.ops_nil ?_
    refine Xg.at_seq ?_
    refine Xg.at_region ?_
    refine Xg.ops_op (by kernel_rfl) (Xg.opx_pure ((Value.int IntKind.u64 (0 : Int))) rfl (fun _ => by kernel_rfl) ?_)
    refine Xg.ops_op (by kernel_rfl) (Xg.opx_pure ((Value.int IntKind.u64 (1 : Int))) rfl (fun _ => by kernel_rfl) ?_)
    refine Xg.ops_op (by kernel_rfl) (Xg.opx_pure ((Value.int IntKind.u64 (0 : Int))) rfl (fun _ => by kernel_rfl) ?_)
    refine Xg.ops_op (by kernel_rfl) (Xg.opx_pure ((Value.int IntKind.u64 (1 : Int))) rfl (fun _ => by kernel_rfl) ?_)
    refine Xg.ops_nil ?_
    refine Xg.at_ret_ps (v := (Value.tuple #[Value.int IntKind.u64 (0 : Int), Value.int IntKind.u64 (1 : Int)])) [] [] Go.Proofs.Try.func45 (fun _ => by kernel_rfl) (by kernel_rfl) (by kernel_rfl) ?_
    exact ⟨by kernel_rfl, by kernel_rfl⟩)
theorem repeat_1 (b : Nat) : Does Try.prog 39 [.slice (some ⟨b, 0, none⟩) 1 1, .int .i64 1] [row b 3 [.int .i64 (-1)]]
    (RetE (fun x : Option Addr × Nat => True) (fun x => .slice x.1 1 x.2) (fun x => [ints 3 .i64 x.1 x.2 [-1]])) := by
  (focus
    refine Xg.spec_of Go.Proofs.Try.func39 rfl Go.Proofs.Try.ntmps39 fun g F => ?_)
  (focus
    refine Xg.at_seq ?_
    refine Xg.at_region ?_
    refine Xg.ops_op (by kernel_rfl) (Xg.opx_pure ((Value.slice none (0 : Nat) (0 : Nat))) rfl (fun _ => by kernel_rfl) ?_)
    refine Xg.ops_nil ?_
    refine Xg.at_seq ?_
    refine Xg.at_seq ?_
    refine Xg.at_region ?_
    refine Xg.ops_op (by kernel_rfl) (Xg.opx_pure ((iv 1)) rfl (fun _ => by kernel_rfl) ?_)
    refine Xg.ops_op (by kernel_rfl) (Xg.opx_pure ((Value.bool false)) rfl (fun _ => by kernel_rfl) ?_)
    refine Xg.ops_nil ?_
    refine Xg.at_false (t := false) (by kernel_rfl) rfl ?_
    refine Xg.at_skip ?_
    refine Xg.at_seq ?_
    refine Xg.at_region ?_
    refine Xg.ops_op (by kernel_rfl) (Xg.opx_pure ((Value.slice (some (Addr.mk b (0 : Nat) none)) (1 : Nat) (1 : Nat))) rfl (fun _ => by kernel_rfl) ?_)
    refine Xg.ops_op (by kernel_rfl) (Xg.opx_pure ((iv 1)) rfl (fun _ => by kernel_rfl) ?_)
    refine Xg.ops_op (by kernel_rfl) (Xg.opx_pure (.int .u64 ((1 : Int))) rfl (fun _ => by kernel_rfl) ?_)
    refine Xg.ops_op (by kernel_rfl) (Xg.opx_pure ((iv 1)) rfl (fun _ => by kernel_rfl) ?_)
    refine Xg.ops_op (by kernel_rfl) (Xg.opx_pure (.int .u64 ((1 : Int))) rfl (fun _ => by kernel_rfl) ?_)
    refine Xg.ops_op (by kernel_rfl) (Xg.opx_call1' [] [row b (3 : TypeId) [iv (-1)]] (fun _ => by kernel_rfl) (@Go.Proofs.Ytijjficnhpokdaa.mul_1 ) (by kernel_rfl) (by kernel_rfl) (by kernel_rfl) ?_)
    refine Xg.ops_op (by kernel_rfl) (Xg.opx_pure ((Value.tuple #[Value.int IntKind.u64 (0 : Int), Value.int IntKind.u64 (1 : Int)])) rfl (fun _ => by kernel_rfl) ?_)
    refine Xg.ops_op (by kernel_rfl) (Xg.opx_pure ((Value.int IntKind.u64 (0 : Int))) rfl (fun _ => by kernel_rfl) ?_)
    refine Xg.ops_op (by kernel_rfl) (Xg.opx_pure ((Value.int IntKind.u64 (1 : Int))) rfl (fun _ => by kernel_rfl) ?_)
    refine Xg.ops_op (by kernel_rfl) (Xg.opx_pure ((Value.int IntKind.u64 (0 : Int))) rfl (fun _ => by kernel_rfl) ?_)
    refine Xg.ops_op (by kernel_rfl) (Xg.opx_pure ((Value.int IntKind.u64 (1 : Int))) rfl (fun _ => by kernel_rfl) ?_)
    refine Xg.ops_nil ?_
    refine Xg.at_seq ?_
    refine Xg.at_seq ?_
    refine Xg.at_region ?_
    refine Xg.ops_op (by kernel_rfl) (Xg.opx_pure ((Value.int IntKind.u64 (0 : Int))) rfl (fun _ => by kernel_rfl) ?_)
    refine Xg.ops_op (by kernel_rfl) (Xg.opx_pure ((Value.bool false)) rfl (fun _ => by kernel_rfl) ?_)
    refine Xg.ops_op (by kernel_rfl) (Xg.opx_pure ((Value.bool false)) rfl (fun _ => by kernel_rfl) ?_)
    refine Xg.ops_op (by kernel_rfl) (Xg.opx_pure ((Value.int IntKind.u64 (1 : Int))) rfl (fun _ => by kernel_rfl) ?_)
    refine Xg.ops_op (by kernel_rfl) (Xg.opx_pure ((Value.bool false)) rfl (fun _ => by kernel_rfl) ?_)
    refine Xg.ops_op (by kernel_rfl) (Xg.opx_pure ((Value.bool false)) rfl (fun _ => by kernel_rfl) ?_)
    refine Xg.ops_nil ?_
    refine Xg.at_false (t := false) (by kernel_rfl) rfl ?_
    refine Xg.at_skip ?_
    refine Xg.at_seq ?_
    refine Xg.at_region ?_
    refine Xg.ops_op (by kernel_rfl) (Xg.opx_pure ((Value.int IntKind.u64 (1 : Int))) rfl (fun _ => by kernel_rfl) ?_)
    refine Xg.ops_op (by kernel_rfl) (Xg.opx_pure (.int .i64 ((1 : Int))) rfl (fun _ => by kernel_rfl) ?_)
    refine Xg.ops_op (by kernel_rfl) (Xg.opx_make_ints (elem := 3) (kd := .i64) (by_ := 8) (k1 := .i64) (k2 := .i64) (n := ((1 : Int))) (c := ((1 : Int))) ((1 : Nat)) ((1 : Nat)) [(0 : Int)] (by kernel_rfl) (by kernel_rfl) (by kernel_rfl) (by kernel_rfl) rfl rfl (by omega) (by omega) (by first | rfl | (simp; done)) fun xa1 xh1 => ?_)
    have xl1 : ([(0 : Int)] : List Int).length = ((1 : Nat)) := by first | rfl | (simp; done)
    refine Xg.ops_op (by kernel_rfl) (Xg.opx_pure ((Value.slice xa1 (1 : Nat) (1 : Nat))) rfl (fun _ => by kernel_rfl) ?_)
    refine Xg.ops_nil ?_
    refine Xg.at_seq ?_
    refine Xg.at_region ?_
    refine Xg.ops_op (by kernel_rfl) (Xg.opx_pure ((Value.slice xa1 (1 : Nat) (1 : Nat))) rfl (fun _ => by kernel_rfl) ?_)
    refine Xg.ops_op (by kernel_rfl) (Xg.opx_pure ((Value.slice (some (Addr.mk b (0 : Nat) none)) (1 : Nat) (1 : Nat))) rfl (fun _ => by kernel_rfl) ?_))
  refine Xg.ops_op (by kernel_rfl) (Xg.opx_copy_in (elem := 3) (xs := [0]) (ys := [-1]) (yv := .slice (some ⟨b, 0, none⟩) 1 1) (cx := 1) 0 8 0 1 [-1] 1 rfl (by kernel_rfl) (by kernel_rfl) (by kernel_rfl) (fun b e => e) (by kernel_rfl) (fun w hS => by exact row_rd hS 1 rfl rfl) (by decide) (by decide) rfl rfl rfl ?_)
  (focus
    refine Xg.ops_op (by kernel_rfl) (Xg.opx_pure ((iv 1)) rfl (fun _ => by kernel_rfl) ?_)
    refine Xg.ops_nil ?_
    refine Xg.at_seq ?_
    refine Xg.at_block ?_
    refine Xg.at_loop ?_
    refine Xg.at_seq ?_
    refine Xg.at_seq ?_
    refine Xg.at_region ?_
    refine Xg.ops_op (by kernel_rfl) (Xg.opx_pure ((iv 1)) rfl (fun _ => by kernel_rfl) ?_)
    refine Xg.ops_op (by kernel_rfl) (Xg.opx_pure ((Value.slice xa1 (1 : Nat) (1 : Nat))) rfl (fun _ => by kernel_rfl) ?_)
    refine Xg.ops_op (by kernel_rfl) (Xg.opx_pure ((iv 1)) rfl (fun _ => by kernel_rfl) ?_)
    refine Xg.ops_op (by kernel_rfl) (Xg.opx_pure ((Value.bool false)) rfl (fun _ => by kernel_rfl) ?_)
    refine Xg.ops_nil ?_
    refine Xg.at_false (t := false) (by kernel_rfl) rfl ?_
    refine Xg.at_exit rfl ?_
    refine Xg.at_seq ?_
    refine Xg.at_region ?_
    refine Xg.ops_op (by kernel_rfl) (Xg.opx_pure ((Value.slice xa1 (1 : Nat) (1 : Nat))) rfl (fun _ => by kernel_rfl) ?_)
    refine Xg.ops_op (by kernel_rfl) (Xg.opx_pure ((Value.slice xa1 (1 : Nat) (1 : Nat))) rfl (fun _ => by kernel_rfl) ?_)
    refine Xg.ops_nil ?_
    refine Xg.at_ret_ps (v := (Value.slice xa1 (1 : Nat) (1 : Nat))) [0] [ints (3 : TypeId) IntKind.i64 xa1 (1 : Nat) [(-1 : Int)]] Go.Proofs.Try.func39 (fun _ => by kernel_rfl) (by kernel_rfl) (by kernel_rfl) ?_
    refine ⟨((xa1, (1 : Nat))), trivial, by kernel_rfl, by kernel_rfl⟩)

theorem mul64_2 : Does Try.prog 47 [.int .u64 1, .int .u64 2] [] (Ret (.tuple #[.int .u64 0, .int .u64 2]) []) := by
  (focus
    refine Xg.spec_of Go.Proofs.Try.func47 rfl Go.Proofs.Try.ntmps47 fun g F => ?_)
  (focus
    refine Xg.at_seq ?_
    refine Xg.at_region ?_
    refine Xg.ops_op (by kernel_rfl) (Xg.opx_pure ((Value.int IntKind.u64 (0 : Int))) rfl (fun _ => by kernel_rfl) ?_)
    refine Xg.ops_op (by kernel_rfl) (Xg.opx_pure ((Value.int IntKind.u64 (0 : Int))) rfl (fun _ => by kernel_rfl) ?_)
    refine Xg.ops_nil ?_
    refine Xg.at_seq ?_
    refine Xg.at_region ?_
    refine Xg.ops_op (by kernel_rfl) (Xg.opx_pure ((Value.int IntKind.u64 (1 : Int))) rfl (fun _ => by kernel_rfl) ?_)
    refine Xg.ops_op (by kernel_rfl) (Xg.opx_pure ((Value.int IntKind.u64 (1 : Int))) rfl (fun _ => by kernel_rfl) ?_)
    refine Xg.ops_op (by kernel_rfl) (Xg.opx_pure ((Value.int IntKind.u64 (1 : Int))) rfl (fun _ => by kernel_rfl) ?_)
    refine Xg.ops_nil ?_
    refine Xg.at_seq ?_
    refine Xg.at_region ?_
    refine Xg.ops_op (by kernel_rfl) (Xg.opx_pure ((Value.int IntKind.u64 (1 : Int))) rfl (fun _ => by kernel_rfl) ?_)
    refine Xg.ops_op (by kernel_rfl) (Xg.opx_pure ((Value.int IntKind.u64 (0 : Int))) rfl (fun _ => by kernel_rfl) ?_)
    refine Xg.ops_op (by kernel_rfl) (Xg.opx_pure ((Value.int IntKind.u64 (0 : Int))) rfl (fun _ => by kernel_rfl) ?_)
    refine Xg.ops_nil ?_
    refine Xg.at_seq ?_
    refine Xg.at_region ?_
    refine Xg.ops_op (by kernel_rfl) (Xg.opx_pure ((Value.int IntKind.u64 (2 : Int))) rfl (fun _ => by kernel_rfl) ?_)
    refine Xg.ops_op (by kernel_rfl) (Xg.opx_pure ((Value.int IntKind.u64 (2 : Int))) rfl (fun _ => by kernel_rfl) ?_)
    refine Xg.ops_op (by kernel_rfl) (Xg.opx_pure ((Value.int IntKind.u64 (2 : Int))) rfl (fun _ => by kernel_rfl) ?_)
    refine Xg.ops_nil ?_
    refine Xg.at_seq ?_
    refine Xg.at_region ?_
    refine Xg.ops_op (by kernel_rfl) (Xg.opx_pure ((Value.int IntKind.u64 (2 : Int))) rfl (fun _ => by kernel_rfl) ?_)
    refine Xg.ops_op (by kernel_rfl) (Xg.opx_pure ((Value.int IntKind.u64 (0 : Int))) rfl (fun _ => by kernel_rfl) ?_)
    refine Xg.ops_op (by kernel_rfl) (Xg.opx_pure ((Value.int IntKind.u64 (0 : Int))) rfl (fun _ => by kernel_rfl) ?_)
    refine Xg.ops_nil ?_
    refine Xg.at_seq ?_
    refine Xg.at_region ?_
    refine Xg.ops_op (by kernel_rfl) (Xg.opx_pure ((Value.int IntKind.u64 (1 : Int))) rfl (fun _ => by kernel_rfl) ?_)
    refine Xg.ops_op (by kernel_rfl) (Xg.opx_pure ((Value.int IntKind.u64 (2 : Int))) rfl (fun _ => by kernel_rfl) ?_)
    refine Xg.ops_op (by kernel_rfl) (Xg.opx_pure ((Value.int IntKind.u64 (2 : Int))) rfl (fun _ => by kernel_rfl) ?_)
    refine Xg.ops_op (by kernel_rfl) (Xg.opx_pure ((Value.int IntKind.u64 (2 : Int))) rfl (fun _ => by kernel_rfl) ?_)
    refine Xg.ops_nil ?_
    refine Xg.at_seq ?_
    refine Xg.at_region ?_
    refine Xg.ops_op (by kernel_rfl) (Xg.opx_pure ((Value.int IntKind.u64 (0 : Int))) rfl (fun _ => by kernel_rfl) ?_)
    refine Xg.ops_op (by kernel_rfl) (Xg.opx_pure ((Value.int IntKind.u64 (2 : Int))) rfl (fun _ => by kernel_rfl) ?_)
    refine Xg.ops_op (by kernel_rfl) (Xg.opx_pure ((Value.int IntKind.u64 (0 : Int))) rfl (fun _ => by kernel_rfl) ?_)
    refine Xg.ops_op (by kernel_rfl) (Xg.opx_pure ((Value.int IntKind.u64 (2 : Int))) rfl (fun _ => by kernel_rfl) ?_)
    refine Xg.ops_op (by kernel_rfl) (Xg.opx_pure ((Value.int IntKind.u64 (0 : Int))) rfl (fun _ => by kernel_rfl) ?_)
    refine Xg.ops_op (by kernel_rfl) (Xg.opx_pure ((Value.int IntKind.u64 (0 : Int))) rfl (fun _ => by kernel_rfl) ?_)
    refine Xg.ops_op (by kernel_rfl) (Xg.opx_pure ((Value.int IntKind.u64 (0 : Int))) rfl (fun _ => by kernel_rfl) ?_)
    refine Xg.ops_nil ?_
    refine Xg.at_seq ?_
    refine Xg.at_region ?_
    refine Xg.ops_op (by kernel_rfl) (Xg.opx_pure ((Value.int IntKind.u64 (0 : Int))) rfl (fun _ => by kernel_rfl) ?_)
    refine Xg.ops_op (by kernel_rfl) (Xg.opx_pure ((Value.int IntKind.u64 (0 : Int))) rfl (fun _ => by kernel_rfl) ?_)
    refine Xg.ops_op (by kernel_rfl) (Xg.opx_pure ((Value.int IntKind.u64 (0 : Int))) rfl (fun _ => by kernel_rfl) ?_)
    refine Xg.ops_nil ?_
    refine Xg.at_seq ?_
    refine Xg.at_region ?_
    refine Xg.ops_op (by kernel_rfl) (Xg.opx_pure ((Value.int IntKind.u64 (0 : Int))) rfl (fun _ => by kernel_rfl) ?_)
    refine Xg.ops_op (by kernel_rfl) (Xg.opx_pure ((Value.int IntKind.u64 (0 : Int))) rfl (fun _ => by kernel_rfl) ?_)
    refine Xg.ops_op (by kernel_rfl) (Xg.opx_pure ((Value.int IntKind.u64 (0 : Int))) rfl (fun _ => by kernel_rfl) ?_)
    refine Xg.ops_nil ?_
    refine Xg.at_seq ?_
    refine Xg.at_region ?_
    refine Xg.ops_op (by kernel_rfl) (Xg.opx_pure ((Value.int IntKind.u64 (0 : Int))) rfl (fun _ => by kernel_rfl) ?_)
    refine Xg.ops_op (by kernel_rfl) (Xg.opx_pure ((Value.int IntKind.u64 (1 : Int))) rfl (fun _ => by kernel_rfl) ?_)
    refine Xg.ops_op (by kernel_rfl) (Xg.opx_pure ((Value.int IntKind.u64 (0 : Int))) rfl (fun _ => by kernel_rfl) ?_)
    refine Xg.ops_op (by kernel_rfl) (Xg.opx_pure ((Value.int IntKind.u64 (0 : Int))) rfl (fun _ => by kernel_rfl) ?_)
    refine Xg.ops_op (by kernel_rfl) (Xg.opx_pure ((Value.int IntKind.u64 (0 : Int))) rfl (fun _ => by kernel_rfl) ?_)
    refine Xg.ops_op (by kernel_rfl) (Xg.opx_pure ((Value.int IntKind.u64 (0 : Int))) rfl (fun _ => by kernel_rfl) ?_)
    refine Xg.ops_nil ?_
    refine Xg.at_seq ?_
    refine Xg.at_region ?_
    refine Xg.ops_op (by kernel_rfl) (Xg.opx_pure ((Value.int IntKind.u64 (0 : Int))) rfl (fun _ => by kernel_rfl) ?_)
    refine Xg.ops_op (by kernel_rfl) (Xg.opx_pure ((Value.int IntKind.u64 (0 : Int))) rfl (fun _ => by kernel_rfl) ?_)
    refine Xg.ops_op (by kernel_rfl) (Xg.opx_pure ((Value.int IntKind.u64 (0 : Int))) rfl (fun _ => by kernel_rfl) ?_)
    refine Xg.ops_op (by kernel_rfl) (Xg.opx_pure ((Value.int IntKind.u64 (0 : Int))) rfl (fun _ => by kernel_rfl) ?_)
    refine Xg.ops_op (by kernel_rfl) (Xg.opx_pure ((Value.int IntKind.u64 (0 : Int))) rfl (fun _ => by kernel_rfl) ?_)
    refine Xg.ops_op (by kernel_rfl) (Xg.opx_pure ((Value.int IntKind.u64 (0 : Int))) rfl (fun _ => by kernel_rfl) ?_)
    refine Xg.ops_op (by kernel_rfl) (Xg.opx_pure ((Value.int IntKind.u64 (0 : Int))) rfl (fun _ => by kernel_rfl) ?_)
    refine Xg.ops_op (by kernel_rfl) (Xg.opx_pure ((Value.int IntKind.u64 (0 : Int))) rfl (fun _ => by kernel_rfl) ?_)
    refine Xg.ops_op (by kernel_rfl) (Xg.opx_pure ((Value.int IntKind.u64 (0 : Int))) rfl (fun _ => by kernel_rfl) ?_)
    refine Xg.ops_nil ?_
    refine Xg.at_seq ?_
    refine Xg.at_region ?_
    refine Xg.ops_op (by kernel_rfl) (Xg.opx_pure ((Value.int IntKind.u64 (1 : Int))) rfl (fun _ => by kernel_rfl) ?_)
    refine Xg.ops_op (by kernel_rfl) (Xg.opx_pure ((Value.int IntKind.u64 (2 : Int))) rfl (fun _ => by kernel_rfl) ?_)
    refine Xg.ops_op (by kernel_rfl) (Xg.opx_pure ((Value.int IntKind.u64 (2 : Int))) rfl (fun _ => by kernel_rfl) ?_)
    refine Xg.ops_op (by kernel_rfl) (Xg.opx_pure ((Value.int IntKind.u64 (2 : Int))) rfl (fun _ => by kernel_rfl) ?_)
    refine Xg.ops_nil ?_
    refine Xg.at_ret_ps (v := (Value.tuple #[Value.int IntKind.u64 (0 : Int), Value.int IntKind.u64 (2 : Int)])) [] [] Go.Proofs.Try.func47 (fun _ => by kernel_rfl) (by kernel_rfl) (by kernel_rfl) ?_
    exact ⟨by kernel_rfl, by kernel_rfl⟩)
theorem mul_2 : Does Try.prog 45 [.int .u64 1, .int .u64 2] [] (Ret (.tuple #[.int .u64 0, .int .u64 2]) []) := by
  (focus
    refine Xg.spec_of Go.Proofs.Try.func45 rfl Go.Proofs.Try.ntmps45 fun g F => ?_)
  (focus
    refine Xg.at_seq ?_
    refine Xg.at_region ?_
    refine Xg.ops_op (by kernel_rfl) (Xg.opx_pure ((Value.int IntKind.u64 (0 : Int))) rfl (fun _ => by kernel_rfl) ?_)
    refine Xg.ops_op (by kernel_rfl) (Xg.opx_pure ((Value.int IntKind.u64 (0 : Int))) rfl (fun _ => by kernel_rfl) ?_)
    refine Xg.ops_nil ?_
    refine Xg.at_seq ?_
    refine Xg.at_false (t := false) (by kernel_rfl) rfl ?_
    refine Xg.at_skip ?_
    refine Xg.at_seq ?_
    refine Xg.at_region ?_
    refine Xg.ops_op (by kernel_rfl) (Xg.opx_pure ((Value.int IntKind.u64 (1 : Int))) rfl (fun _ => by kernel_rfl) ?_)
    refine Xg.ops_op (by kernel_rfl) (Xg.opx_pure ((Value.int IntKind.u64 (2 : Int))) rfl (fun _ => by kernel_rfl) ?_)
    refine Xg.ops_op (by kernel_rfl) (Xg.opx_call1' [] [] (fun _ => by kernel_rfl) (@Go.Proofs.Ytijjficnhpokdaa.mul64_2 ) (by kernel_rfl) (by kernel_rfl) (by kernel_rfl) ?_)
    refine Xg.ops_op (by kernel_rfl) (Xg.opx_pure ((Value.tuple #[Value.int IntKind.u64 (0 : Int), Value.int IntKind.u64 (2 : Int)])) rfl (fun _ => by kernel_rfl) ?_)
    refine Xg.ops_op (by kernel_rfl) (Xg.opx_pure ((Value.int IntKind.u64 (0 : Int))) rfl (fun _ => by kernel_rfl) ?_)
    refine Xg.ops_op (by kernel_rfl) (Xg.opx_pure ((Value.int IntKind.u64 (2 : Int))) rfl (fun _ => by kernel_rfl) ?_)
    refine Xg.ops_op (by kernel_rfl) (Xg.opx_pure ((Value.int IntKind.u64 (0 : Int))) rfl (fun _ => by kernel_rfl) ?_)
    refine Xg.ops_op (by kernel_rfl) (Xg.opx_pure ((Value.int IntKind.u64 (2 : Int))) rfl (fun _ => by kernel_rfl) ?_)
    refine Xg.ops_nil ?_
    refine Xg.at_seq ?_
    refine Xg.at_region ?_
    refine Xg.ops_op (by kernel_rfl) (Xg.opx_pure ((Value.int IntKind.u64 (0 : Int))) rfl (fun _ => by kernel_rfl) ?_)
    refine Xg.ops_op (by kernel_rfl) (Xg.opx_pure ((Value.int IntKind.u64 (2 : Int))) rfl (fun _ => by kernel_rfl) ?_)
    refine Xg.ops_op (by kernel_rfl) (Xg.opx_pure ((Value.int IntKind.u64 (0 : Int))) rfl (fun _ => by kernel_rfl) ?_)
    refine Xg.ops_op (by kernel_rfl) (Xg.opx_pure ((Value.int IntKind.u64 (2 : Int))) rfl (fun _ => by kernel_rfl) ?_)
    refine Xg.ops_nil ?_
    refine Xg.at_ret_ps (v := (Value.tuple #[Value.int IntKind.u64 (0 : Int), Value.int IntKind.u64 (2 : Int)])) [] [] Go.Proofs.Try.func45 (fun _ => by kernel_rfl) (by kernel_rfl) (by kernel_rfl) ?_
    exact ⟨by kernel_rfl, by kernel_rfl⟩)
theorem repeat_2 (b : Nat) : Does Try.prog 39 [.slice (some ⟨b, 0, none⟩) 1 1, .int .i64 2] [row b 3 [.int .i64 (-1)]]
    (RetE (fun x : Option Addr × Nat => True) (fun x => .slice x.1 2 x.2) (fun x => [ints 3 .i64 x.1 x.2 [-1, -1]])) := by
  (focus
    refine Xg.spec_of Go.Proofs.Try.func39 rfl Go.Proofs.Try.ntmps39 fun g F => ?_)
  (focus
    refine Xg.at_seq ?_
    refine Xg.at_region ?_
    refine Xg.ops_op (by kernel_rfl) (Xg.opx_pure ((Value.slice none (0 : Nat) (0 : Nat))) rfl (fun _ => by kernel_rfl) ?_)
    refine Xg.ops_nil ?_
    refine Xg.at_seq ?_
    refine Xg.at_seq ?_
    refine Xg.at_region ?_
    refine Xg.ops_op (by kernel_rfl) (Xg.opx_pure ((iv 2)) rfl (fun _ => by kernel_rfl) ?_)
    refine Xg.ops_op (by kernel_rfl) (Xg.opx_pure ((Value.bool false)) rfl (fun _ => by kernel_rfl) ?_)
    refine Xg.ops_nil ?_
    refine Xg.at_false (t := false) (by kernel_rfl) rfl ?_
    refine Xg.at_skip ?_
    refine Xg.at_seq ?_
    refine Xg.at_region ?_
    refine Xg.ops_op (by kernel_rfl) (Xg.opx_pure ((Value.slice (some (Addr.mk b (0 : Nat) none)) (1 : Nat) (1 : Nat))) rfl (fun _ => by kernel_rfl) ?_)
    refine Xg.ops_op (by kernel_rfl) (Xg.opx_pure ((iv 1)) rfl (fun _ => by kernel_rfl) ?_)
    refine Xg.ops_op (by kernel_rfl) (Xg.opx_pure (.int .u64 ((1 : Int))) rfl (fun _ => by kernel_rfl) ?_)
    refine Xg.ops_op (by kernel_rfl) (Xg.opx_pure ((iv 2)) rfl (fun _ => by kernel_rfl) ?_)
    refine Xg.ops_op (by kernel_rfl) (Xg.opx_pure (.int .u64 ((2 : Int))) rfl (fun _ => by kernel_rfl) ?_)
    refine Xg.ops_op (by kernel_rfl) (Xg.opx_call1' [] [row b (3 : TypeId) [iv (-1)]] (fun _ => by kernel_rfl) (@Go.Proofs.Ytijjficnhpokdaa.mul_2 ) (by kernel_rfl) (by kernel_rfl) (by kernel_rfl) ?_)
    refine Xg.ops_op (by kernel_rfl) (Xg.opx_pure ((Value.tuple #[Value.int IntKind.u64 (0 : Int), Value.int IntKind.u64 (2 : Int)])) rfl (fun _ => by kernel_rfl) ?_)
    refine Xg.ops_op (by kernel_rfl) (Xg.opx_pure ((Value.int IntKind.u64 (0 : Int))) rfl (fun _ => by kernel_rfl) ?_)
    refine Xg.ops_op (by kernel_rfl) (Xg.opx_pure ((Value.int IntKind.u64 (2 : Int))) rfl (fun _ => by kernel_rfl) ?_)
    refine Xg.ops_op (by kernel_rfl) (Xg.opx_pure ((Value.int IntKind.u64 (0 : Int))) rfl (fun _ => by kernel_rfl) ?_)
    refine Xg.ops_op (by kernel_rfl) (Xg.opx_pure ((Value.int IntKind.u64 (2 : Int))) rfl (fun _ => by kernel_rfl) ?_)
    refine Xg.ops_nil ?_
    refine Xg.at_seq ?_
    refine Xg.at_seq ?_
    refine Xg.at_region ?_
    refine Xg.ops_op (by kernel_rfl) (Xg.opx_pure ((Value.int IntKind.u64 (0 : Int))) rfl (fun _ => by kernel_rfl) ?_)
    refine Xg.ops_op (by kernel_rfl) (Xg.opx_pure ((Value.bool false)) rfl (fun _ => by kernel_rfl) ?_)
    refine Xg.ops_op (by kernel_rfl) (Xg.opx_pure ((Value.bool false)) rfl (fun _ => by kernel_rfl) ?_)
    refine Xg.ops_op (by kernel_rfl) (Xg.opx_pure ((Value.int IntKind.u64 (2 : Int))) rfl (fun _ => by kernel_rfl) ?_)
    refine Xg.ops_op (by kernel_rfl) (Xg.opx_pure ((Value.bool false)) rfl (fun _ => by kernel_rfl) ?_)
    refine Xg.ops_op (by kernel_rfl) (Xg.opx_pure ((Value.bool false)) rfl (fun _ => by kernel_rfl) ?_)
    refine Xg.ops_nil ?_
    refine Xg.at_false (t := false) (by kernel_rfl) rfl ?_
    refine Xg.at_skip ?_
    refine Xg.at_seq ?_
    refine Xg.at_region ?_
    refine Xg.ops_op (by kernel_rfl) (Xg.opx_pure ((Value.int IntKind.u64 (2 : Int))) rfl (fun _ => by kernel_rfl) ?_)
    refine Xg.ops_op (by kernel_rfl) (Xg.opx_pure (.int .i64 ((2 : Int))) rfl (fun _ => by kernel_rfl) ?_)
    refine Xg.ops_op (by kernel_rfl) (Xg.opx_make_ints (elem := 3) (kd := .i64) (by_ := 8) (k1 := .i64) (k2 := .i64) (n := ((2 : Int))) (c := ((2 : Int))) ((2 : Nat)) ((2 : Nat)) [(0 : Int), (0 : Int)] (by kernel_rfl) (by kernel_rfl) (by kernel_rfl) (by kernel_rfl) rfl rfl (by omega) (by omega) (by first | rfl | (simp; done)) fun xa1 xh1 => ?_)
    have xl1 : ([(0 : Int), (0 : Int)] : List Int).length = ((2 : Nat)) := by first | rfl | (simp; done)
    refine Xg.ops_op (by kernel_rfl) (Xg.opx_pure ((Value.slice xa1 (2 : Nat) (2 : Nat))) rfl (fun _ => by kernel_rfl) ?_)
    refine Xg.ops_nil ?_
    refine Xg.at_seq ?_
    refine Xg.at_region ?_
    refine Xg.ops_op (by kernel_rfl) (Xg.opx_pure ((Value.slice xa1 (2 : Nat) (2 : Nat))) rfl (fun _ => by kernel_rfl) ?_)
    refine Xg.ops_op (by kernel_rfl) (Xg.opx_pure ((Value.slice (some (Addr.mk b (0 : Nat) none)) (1 : Nat) (1 : Nat))) rfl (fun _ => by kernel_rfl) ?_))
  refine Xg.ops_op (by kernel_rfl) (Xg.opx_copy_in (elem := 3) (xs := [0, 0]) (ys := [-1]) (yv := .slice (some ⟨b, 0, none⟩) 1 1) (cx := 2) 0 8 0 2 [-1, 0] 1 rfl (by kernel_rfl) (by kernel_rfl) (by kernel_rfl) (fun b e => e) (by kernel_rfl) (fun w hS => by exact row_rd hS 1 rfl rfl) (by decide) (by decide) rfl rfl rfl ?_)
  (focus
    refine Xg.ops_op (by kernel_rfl) (Xg.opx_pure ((iv 1)) rfl (fun _ => by kernel_rfl) ?_)
    refine Xg.ops_nil ?_
    refine Xg.at_seq ?_
    refine Xg.at_block ?_
    refine Xg.at_loop ?_
    refine Xg.at_seq ?_
    refine Xg.at_seq ?_
    refine Xg.at_region ?_
    refine Xg.ops_op (by kernel_rfl) (Xg.opx_pure ((iv 1)) rfl (fun _ => by kernel_rfl) ?_)
    refine Xg.ops_op (by kernel_rfl) (Xg.opx_pure ((Value.slice xa1 (2 : Nat) (2 : Nat))) rfl (fun _ => by kernel_rfl) ?_)
    refine Xg.ops_op (by kernel_rfl) (Xg.opx_pure ((iv 2)) rfl (fun _ => by kernel_rfl) ?_)
    refine Xg.ops_op (by kernel_rfl) (Xg.opx_pure ((Value.bool true)) rfl (fun _ => by kernel_rfl) ?_)
    refine Xg.ops_nil ?_
    refine Xg.at_true (t := true) (by kernel_rfl) rfl ?_
    refine Xg.at_skip ?_
    refine Xg.at_block ?_
    refine Xg.at_draw [7] [] (by kernel_rfl) ?_
    refine Xg.any_pure ((iv 1)) 0 (by kernel_rfl) rfl (by kernel_rfl) (by kernel_rfl) (by kernel_rfl) (by kernel_rfl) rfl (fun _ => by kernel_rfl) ?_
    refine Xg.any_pure ((Value.slice xa1 (2 : Nat) (2 : Nat))) 1 (by kernel_rfl) rfl (by kernel_rfl) (by kernel_rfl) (by kernel_rfl) (by kernel_rfl) rfl (fun _ => by kernel_rfl) ?_
    refine Xg.any_pure ((iv 1)) 2 (by kernel_rfl) rfl (by kernel_rfl) (by kernel_rfl) (by kernel_rfl) (by kernel_rfl) rfl (fun _ => by kernel_rfl) ?_
    refine Xg.any_pure (.slice (Xg.subA xa1 ((2 : Nat)) ((1 : Nat)) 1) (((2 : Nat)) - ((1 : Nat))) (((2 : Nat)) - ((1 : Nat)))) 3 (by kernel_rfl) rfl (by kernel_rfl) (by kernel_rfl) (by kernel_rfl) (by kernel_rfl) rfl (Xg.run_sl_lo (elem := 3) (a := xa1) (c := ((2 : Nat))) (len := ((2 : Nat))) (k1 := .i64) (e1 := ((1 : Int))) 1 ((1 : Nat)) (by kernel_rfl) (by kernel_rfl) (by kernel_rfl) (by kernel_rfl) rfl (by omega)) ?_
    refine Xg.any_pure ((Value.slice xa1 (2 : Nat) (2 : Nat))) 4 (by kernel_rfl) rfl (by kernel_rfl) (by kernel_rfl) (by kernel_rfl) (by kernel_rfl) rfl (fun _ => by kernel_rfl) ?_
    refine Xg.any_pure ((iv 1)) 5 (by kernel_rfl) rfl (by kernel_rfl) (by kernel_rfl) (by kernel_rfl) (by kernel_rfl) rfl (fun _ => by kernel_rfl) ?_
    refine Xg.any_pure (.slice xa1 ((1 : Nat)) ((2 : Nat))) 6 (by kernel_rfl) rfl (by kernel_rfl) (by kernel_rfl) (by kernel_rfl) (by kernel_rfl) rfl (Xg.run_sl_hi (elem := 3) (a := xa1) (c := ((2 : Nat))) (len := ((2 : Nat))) (k2 := .i64) (e2 := ((1 : Int))) 1 ((1 : Nat)) (by kernel_rfl) (by kernel_rfl) (by kernel_rfl) (by kernel_rfl) rfl (by omega)) ?_)
  refine Xg.any_each [7] (by kernel_rfl) rfl ⟨?_, trivial⟩
  refine Xg.comes_act rfl (by kernel_rfl) (by kernel_rfl) (Xg.opx_copy_in (elem := 3) (xs := [-1, 0]) (ys := [-1]) (yv := .slice xa1 1 2) (a := xa1) (c := 2) (ax := Xg.subA xa1 2 1 1) (cx := 1) 0 8 1 1 [-1, -1] 1 rfl (by kernel_rfl) (by kernel_rfl) (by kernel_rfl) (fun b e => by rw [e]; exact sub_at (by decide)) (by kernel_rfl) (fun w hS => by exact reads_rd (reads_hi (E := 3) (n := 2) (c := 2) (a := xa1) (sz := 1) (vs := ([-1, 0] : List Int).map (Value.int .i64)) 1 (by decide)) 0 rfl hS) (by decide) (by decide) rfl rfl rfl ?_)
  refine Xg.acts Xg.owes_nil ?_
  (focus
    refine Xg.any_pure ((iv 2)) 8 (by kernel_rfl) rfl (by kernel_rfl) (by kernel_rfl) (by kernel_rfl) (by kernel_rfl) rfl (fun _ => by kernel_rfl) ?_
    refine Xg.any_pure ((iv 2)) 9 (by kernel_rfl) rfl (by kernel_rfl) (by kernel_rfl) (by kernel_rfl) (by kernel_rfl) rfl (fun _ => by kernel_rfl) ?_
    refine Xg.any_nil (by kernel_rfl) ?_
    refine Xg.at_inBlock ?_
    refine Xg.at_inLoop ?_
    refine Xg.at_seq ?_
    refine Xg.at_seq ?_
    refine Xg.at_region ?_
    refine Xg.ops_op (by kernel_rfl) (Xg.opx_pure ((iv 2)) rfl (fun _ => by kernel_rfl) ?_)
    refine Xg.ops_op (by kernel_rfl) (Xg.opx_pure ((Value.slice xa1 (2 : Nat) (2 : Nat))) rfl (fun _ => by kernel_rfl) ?_)
    refine Xg.ops_op (by kernel_rfl) (Xg.opx_pure ((iv 2)) rfl (fun _ => by kernel_rfl) ?_)
    refine Xg.ops_op (by kernel_rfl) (Xg.opx_pure ((Value.bool false)) rfl (fun _ => by kernel_rfl) ?_)
    refine Xg.ops_nil ?_
    refine Xg.at_false (t := false) (by kernel_rfl) rfl ?_
    refine Xg.at_exit rfl ?_
    refine Xg.at_seq ?_
    refine Xg.at_region ?_
    refine Xg.ops_op (by kernel_rfl) (Xg.opx_pure ((Value.slice xa1 (2 : Nat) (2 : Nat))) rfl (fun _ => by kernel_rfl) ?_)
    refine Xg.ops_op (by kernel_rfl) (Xg.opx_pure ((Value.slice xa1 (2 : Nat) (2 : Nat))) rfl (fun _ => by kernel_rfl) ?_)
    refine Xg.ops_nil ?_
    refine Xg.at_ret_ps (v := (Value.slice xa1 (2 : Nat) (2 : Nat))) [0] [ints (3 : TypeId) IntKind.i64 xa1 (2 : Nat) [(-1 : Int), (-1 : Int)]] Go.Proofs.Try.func39 (fun _ => by kernel_rfl) (by kernel_rfl) (by kernel_rfl) ?_
    refine ⟨((xa1, (2 : Nat))), trivial, by kernel_rfl, by kernel_rfl⟩)

theorem mul64_3 : Does Try.prog 47 [.int .u64 1, .int .u64 3] [] (Ret (.tuple #[.int .u64 0, .int .u64 3]) []) := by
  (focus
    refine Xg.spec_of Go.Proofs.Try.func47 rfl Go.Proofs.Try.ntmps47 fun g F => ?_)
  (focus
    refine Xg.at_seq ?_
    refine Xg.at_region ?_
    refine Xg.ops_op (by kernel_rfl) (Xg.opx_pure ((Value.int IntKind.u64 (0 : Int))) rfl (fun _ => by kernel_rfl) ?_)
    refine Xg.ops_op (by kernel_rfl) (Xg.opx_pure ((Value.int IntKind.u64 (0 : Int))) rfl (fun _ => by kernel_rfl) ?_)
    refine Xg.ops_nil ?_
    refine Xg.at_seq ?_
    refine Xg.at_region ?_
    refine Xg.ops_op (by kernel_rfl) (Xg.opx_pure ((Value.int IntKind.u64 (1 : Int))) rfl (fun _ => by kernel_rfl) ?_)
    refine Xg.ops_op (by kernel_rfl) (Xg.opx_pure ((Value.int IntKind.u64 (1 : Int))) rfl (fun _ => by kernel_rfl) ?_)
    refine Xg.ops_op (by kernel_rfl) (Xg.opx_pure ((Value.int IntKind.u64 (1 : Int))) rfl (fun _ => by kernel_rfl) ?_)
    refine Xg.ops_nil ?_
    refine Xg.at_seq ?_
    refine Xg.at_region ?_
    refine Xg.ops_op (by kernel_rfl) (Xg.opx_pure ((Value.int IntKind.u64 (1 : Int))) rfl (fun _ => by kernel_rfl) ?_)
    refine Xg.ops_op (by kernel_rfl) (Xg.opx_pure ((Value.int IntKind.u64 (0 : Int))) rfl (fun _ => by kernel_rfl) ?_)
    refine Xg.ops_op (by kernel_rfl) (Xg.opx_pure ((Value.int IntKind.u64 (0 : Int))) rfl (fun _ => by kernel_rfl) ?_)
    refine Xg.ops_nil ?_
    refine Xg.at_seq ?_
    refine Xg.at_region ?_
    refine Xg.ops_op (by kernel_rfl) (Xg.opx_pure ((Value.int IntKind.u64 (3 : Int))) rfl (fun _ => by kernel_rfl) ?_)
    refine Xg.ops_op (by kernel_rfl) (Xg.opx_pure ((Value.int IntKind.u64 (3 : Int))) rfl (fun _ => by kernel_rfl) ?_)
    refine Xg.ops_op (by kernel_rfl) (Xg.opx_pure ((Value.int IntKind.u64 (3 : Int))) rfl (fun _ => by kernel_rfl) ?_)
    refine Xg.ops_nil ?_
    refine Xg.at_seq ?_
    refine Xg.at_region ?_
    refine Xg.ops_op (by kernel_rfl) (Xg.opx_pure ((Value.int IntKind.u64 (3 : Int))) rfl (fun _ => by kernel_rfl) ?_)
    refine Xg.ops_op (by kernel_rfl) (Xg.opx_pure ((Value.int IntKind.u64 (0 : Int))) rfl (fun _ => by kernel_rfl) ?_)
    refine Xg.ops_op (by kernel_rfl) (Xg.opx_pure ((Value.int IntKind.u64 (0 : Int))) rfl (fun _ => by kernel_rfl) ?_)
    refine Xg.ops_nil ?_
    refine Xg.at_seq ?_
    refine Xg.at_region ?_
    refine Xg.ops_op (by kernel_rfl) (Xg.opx_pure ((Value.int IntKind.u64 (1 : Int))) rfl (fun _ => by kernel_rfl) ?_)
    refine Xg.ops_op (by kernel_rfl) (Xg.opx_pure ((Value.int IntKind.u64 (3 : Int))) rfl (fun _ => by kernel_rfl) ?_)
    refine Xg.ops_op (by kernel_rfl) (Xg.opx_pure ((Value.int IntKind.u64 (3 : Int))) rfl (fun _ => by kernel_rfl) ?_)
    refine Xg.ops_op (by kernel_rfl) (Xg.opx_pure ((Value.int IntKind.u64 (3 : Int))) rfl (fun _ => by kernel_rfl) ?_)
    refine Xg.ops_nil ?_
    refine Xg.at_seq ?_
    refine Xg.at_region ?_
    refine Xg.ops_op (by kernel_rfl) (Xg.opx_pure ((Value.int IntKind.u64 (0 : Int))) rfl (fun _ => by kernel_rfl) ?_)
    refine Xg.ops_op (by kernel_rfl) (Xg.opx_pure ((Value.int IntKind.u64 (3 : Int))) rfl (fun _ => by kernel_rfl) ?_)
    refine Xg.ops_op (by kernel_rfl) (Xg.opx_pure ((Value.int IntKind.u64 (0 : Int))) rfl (fun _ => by kernel_rfl) ?_)
    refine Xg.ops_op (by kernel_rfl) (Xg.opx_pure ((Value.int IntKind.u64 (3 : Int))) rfl (fun _ => by kernel_rfl) ?_)
    refine Xg.ops_op (by kernel_rfl) (Xg.opx_pure ((Value.int IntKind.u64 (0 : Int))) rfl (fun _ => by kernel_rfl) ?_)
    refine Xg.ops_op (by kernel_rfl) (Xg.opx_pure ((Value.int IntKind.u64 (0 : Int))) rfl (fun _ => by kernel_rfl) ?_)
    refine Xg.ops_op (by kernel_rfl) (Xg.opx_pure ((Value.int IntKind.u64 (0 : Int))) rfl (fun _ => by kernel_rfl) ?_)
    refine Xg.ops_nil ?_
    refine Xg.at_seq ?_
    refine Xg.at_region ?_
    refine Xg.ops_op (by kernel_rfl) (Xg.opx_pure ((Value.int IntKind.u64 (0 : Int))) rfl (fun _ => by kernel_rfl) ?_)
    refine Xg.ops_op (by kernel_rfl) (Xg.opx_pure ((Value.int IntKind.u64 (0 : Int))) rfl (fun _ => by kernel_rfl) ?_)
    refine Xg.ops_op (by kernel_rfl) (Xg.opx_pure ((Value.int IntKind.u64 (0 : Int))) rfl (fun _ => by kernel_rfl) ?_)
    refine Xg.ops_nil ?_
    refine Xg.at_seq ?_
    refine Xg.at_region ?_
    refine Xg.ops_op (by kernel_rfl) (Xg.opx_pure ((Value.int IntKind.u64 (0 : Int))) rfl (fun _ => by kernel_rfl) ?_)
    refine Xg.ops_op (by kernel_rfl) (Xg.opx_pure ((Value.int IntKind.u64 (0 : Int))) rfl (fun _ => by kernel_rfl) ?_)
    refine Xg.ops_op (by kernel_rfl) (Xg.opx_pure ((Value.int IntKind.u64 (0 : Int))) rfl (fun _ => by kernel_rfl) ?_)
    refine Xg.ops_nil ?_
    refine Xg.at_seq ?_
    refine Xg.at_region ?_
    refine Xg.ops_op (by kernel_rfl) (Xg.opx_pure ((Value.int IntKind.u64 (0 : Int))) rfl (fun _ => by kernel_rfl) ?_)
    refine Xg.ops_op (by kernel_rfl) (Xg.opx_pure ((Value.int IntKind.u64 (1 : Int))) rfl (fun _ => by kernel_rfl) ?_)
    refine Xg.ops_op (by kernel_rfl) (Xg.opx_pure ((Value.int IntKind.u64 (0 : Int))) rfl (fun _ => by kernel_rfl) ?_)
    refine Xg.ops_op (by kernel_rfl) (Xg.opx_pure ((Value.int IntKind.u64 (0 : Int))) rfl (fun _ => by kernel_rfl) ?_)
    refine Xg.ops_op (by kernel_rfl) (Xg.opx_pure ((Value.int IntKind.u64 (0 : Int))) rfl (fun _ => by kernel_rfl) ?_)
    refine Xg.ops_op (by kernel_rfl) (Xg.opx_pure ((Value.int IntKind.u64 (0 : Int))) rfl (fun _ => by kernel_rfl) ?_)
    refine Xg.ops_nil ?_
    refine Xg.at_seq ?_
    refine Xg.at_region ?_
    refine Xg.ops_op (by kernel_rfl) (Xg.opx_pure ((Value.int IntKind.u64 (0 : Int))) rfl (fun _ => by kernel_rfl) ?_)
    refine Xg.ops_op (by kernel_rfl) (Xg.opx_pure ((Value.int IntKind.u64 (0 : Int))) rfl (fun _ => by kernel_rfl) ?_)
    refine Xg.ops_op (by kernel_rfl) (Xg.opx_pure ((Value.int IntKind.u64 (0 : Int))) rfl (fun _ => by kernel_rfl) ?_)
    refine Xg.ops_op (by kernel_rfl) (Xg.opx_pure ((Value.int IntKind.u64 (0 : Int))) rfl (fun _ => by kernel_rfl) ?_)
    refine Xg.ops_op (by kernel_rfl) (Xg.opx_pure ((Value.int IntKind.u64 (0 : Int))) rfl (fun _ => by kernel_rfl) ?_)
    refine Xg.ops_op (by kernel_rfl) (Xg.opx_pure ((Value.int IntKind.u64 (0 : Int))) rfl (fun _ => by kernel_rfl) ?_)
    refine Xg.ops_op (by kernel_rfl) (Xg.opx_pure ((Value.int IntKind.u64 (0 : Int))) rfl (fun _ => by kernel_rfl) ?_)
    refine Xg.ops_op (by kernel_rfl) (Xg.opx_pure ((Value.int IntKind.u64 (0 : Int))) rfl (fun _ => by kernel_rfl) ?_)
    refine Xg.ops_op (by kernel_rfl) (Xg.opx_pure ((Value.int IntKind.u64 (0 : Int))) rfl (fun _ => by kernel_rfl) ?_)
    refine Xg.ops_nil ?_
    refine Xg.at_seq ?_
    refine Xg.at_region ?_
    refine Xg.ops_op (by kernel_rfl) (Xg.opx_pure ((Value.int IntKind.u64 (1 : Int))) rfl (fun _ => by kernel_rfl) ?_)
    refine Xg.ops_op (by kernel_rfl) (Xg.opx_pure ((Value.int IntKind.u64 (3 : Int))) rfl (fun _ => by kernel_rfl) ?_)
    refine Xg.ops_op (by kernel_rfl) (Xg.opx_pure ((Value.int IntKind.u64 (3 : Int))) rfl (fun _ => by kernel_rfl) ?_)
    refine Xg.ops_op (by kernel_rfl) (Xg.opx_pure ((Value.int IntKind.u64 (3 : Int))) rfl (fun _ => by kernel_rfl) ?_)
    refine Xg.ops_nil ?_
    refine Xg.at_ret_ps (v := (Value.tuple #[Value.int IntKind.u64 (0 : Int), Value.int IntKind.u64 (3 : Int)])) [] [] Go.Proofs.Try.func47 (fun _ => by kernel_rfl) (by kernel_rfl) (by kernel_rfl) ?_
    exact ⟨by kernel_rfl, by kernel_rfl⟩)
theorem mul_3 : Does Try.prog 45 [.int .u64 1, .int .u64 3] [] (Ret (.tuple #[.int .u64 0, .int .u64 3]) []) := by
  (focus
    refine Xg.spec_of Go.Proofs.Try.func45 rfl Go.Proofs.Try.ntmps45 fun g F => ?_)
  (focus
    refine Xg.at_seq ?_
    refine Xg.at_region ?_
    refine Xg.ops_op (by kernel_rfl) (Xg.opx_pure ((Value.int IntKind.u64 (0 : Int))) rfl (fun _ => by kernel_rfl) ?_)
    refine Xg.ops_op (by kernel_rfl) (Xg.opx_pure ((Value.int IntKind.u64 (0 : Int))) rfl (fun _ => by kernel_rfl) ?_)
    refine Xg.ops_nil ?_
    refine Xg.at_seq ?_
    refine Xg.at_false (t := false) (by kernel_rfl) rfl ?_
    refine Xg.at_skip ?_
    refine Xg.at_seq ?_
    refine Xg.at_region ?_
    refine Xg.ops_op (by kernel_rfl) (Xg.opx_pure ((Value.int IntKind.u64 (1 : Int))) rfl (fun _ => by kernel_rfl) ?_)
    refine Xg.ops_op (by kernel_rfl) (Xg.opx_pure ((Value.int IntKind.u64 (3 : Int))) rfl (fun _ => by kernel_rfl) ?_)
    refine Xg.ops_op (by kernel_rfl) (Xg.opx_call1' [] [] (fun _ => by kernel_rfl) (@Go.Proofs.Ytijjficnhpokdaa.mul64_3 ) (by kernel_rfl) (by kernel_rfl) (by kernel_rfl) ?_)
    refine Xg.ops_op (by kernel_rfl) (Xg.opx_pure ((Value.tuple #[Value.int IntKind.u64 (0 : Int), Value.int IntKind.u64 (3 : Int)])) rfl (fun _ => by kernel_rfl) ?_)
    refine Xg.ops_op (by kernel_rfl) (Xg.opx_pure ((Value.int IntKind.u64 (0 : Int))) rfl (fun _ => by kernel_rfl) ?_)
    refine Xg.ops_op (by kernel_rfl) (Xg.opx_pure ((Value.int IntKind.u64 (3 : Int))) rfl (fun _ => by kernel_rfl) ?_)
    refine Xg.ops_op (by kernel_rfl) (Xg.opx_pure ((Value.int IntKind.u64 (0 : Int))) rfl (fun _ => by kernel_rfl) ?_)
    refine Xg.ops_op (by kernel_rfl) (Xg.opx_pure ((Value.int IntKind.u64 (3 : Int))) rfl (fun _ => by kernel_rfl) ?_)
    refine Xg.ops_nil ?_
    refine Xg.at_seq ?_
    refine Xg.at_region ?_
    refine Xg.ops_op (by kernel_rfl) (Xg.opx_pure ((Value.int IntKind.u64 (0 : Int))) rfl (fun _ => by kernel_rfl) ?_)
    refine Xg.ops_op (by kernel_rfl) (Xg.opx_pure ((Value.int IntKind.u64 (3 : Int))) rfl (fun _ => by kernel_rfl) ?_)
    refine Xg.ops_op (by kernel_rfl) (Xg.opx_pure ((Value.int IntKind.u64 (0 : Int))) rfl (fun _ => by kernel_rfl) ?_)
    refine Xg.ops_op (by kernel_rfl) (Xg.opx_pure ((Value.int IntKind.u64 (3 : Int))) rfl (fun _ => by kernel_rfl) ?_)
    refine Xg.ops_nil ?_
    refine Xg.at_ret_ps (v := (Value.tuple #[Value.int IntKind.u64 (0 : Int), Value.int IntKind.u64 (3 : Int)])) [] [] Go.Proofs.Try.func45 (fun _ => by kernel_rfl) (by kernel_rfl) (by kernel_rfl) ?_
    exact ⟨by kernel_rfl, by kernel_rfl⟩)
theorem repeat_3 (b : Nat) : Does Try.prog 39 [.slice (some ⟨b, 0, none⟩) 1 1, .int .i64 3] [row b 3 [.int .i64 (-1)]]
    (RetE (fun x : Option Addr × Nat => True) (fun x => .slice x.1 3 x.2) (fun x => [ints 3 .i64 x.1 x.2 [-1, -1, -1]])) := by
  (focus
    refine Xg.spec_of Go.Proofs.Try.func39 rfl Go.Proofs.Try.ntmps39 fun g F => ?_)
  (focus
    refine Xg.at_seq ?_
    refine Xg.at_region ?_
    refine Xg.ops_op (by kernel_rfl) (Xg.opx_pure ((Value.slice none (0 : Nat) (0 : Nat))) rfl (fun _ => by kernel_rfl) ?_)
    refine Xg.ops_nil ?_
    refine Xg.at_seq ?_
    refine Xg.at_seq ?_
    refine Xg.at_region ?_
    refine Xg.ops_op (by kernel_rfl) (Xg.opx_pure ((iv 3)) rfl (fun _ => by kernel_rfl) ?_)
    refine Xg.ops_op (by kernel_rfl) (Xg.opx_pure ((Value.bool false)) rfl (fun _ => by kernel_rfl) ?_)
    refine Xg.ops_nil ?_
    refine Xg.at_false (t := false) (by kernel_rfl) rfl ?_
    refine Xg.at_skip ?_
    refine Xg.at_seq ?_
    refine Xg.at_region ?_
    refine Xg.ops_op (by kernel_rfl) (Xg.opx_pure ((Value.slice (some (Addr.mk b (0 : Nat) none)) (1 : Nat) (1 : Nat))) rfl (fun _ => by kernel_rfl) ?_)
    refine Xg.ops_op (by kernel_rfl) (Xg.opx_pure ((iv 1)) rfl (fun _ => by kernel_rfl) ?_)
    refine Xg.ops_op (by kernel_rfl) (Xg.opx_pure (.int .u64 ((1 : Int))) rfl (fun _ => by kernel_rfl) ?_)
    refine Xg.ops_op (by kernel_rfl) (Xg.opx_pure ((iv 3)) rfl (fun _ => by kernel_rfl) ?_)
    refine Xg.ops_op (by kernel_rfl) (Xg.opx_pure (.int .u64 ((3 : Int))) rfl (fun _ => by kernel_rfl) ?_)
    refine Xg.ops_op (by kernel_rfl) (Xg.opx_call1' [] [row b (3 : TypeId) [iv (-1)]] (fun _ => by kernel_rfl) (@Go.Proofs.Ytijjficnhpokdaa.mul_3 ) (by kernel_rfl) (by kernel_rfl) (by kernel_rfl) ?_)
    refine Xg.ops_op (by kernel_rfl) (Xg.opx_pure ((Value.tuple #[Value.int IntKind.u64 (0 : Int), Value.int IntKind.u64 (3 : Int)])) rfl (fun _ => by kernel_rfl) ?_)
    refine Xg.ops_op (by kernel_rfl) (Xg.opx_pure ((Value.int IntKind.u64 (0 : Int))) rfl (fun _ => by kernel_rfl) ?_)
    refine Xg.ops_op (by kernel_rfl) (Xg.opx_pure ((Value.int IntKind.u64 (3 : Int))) rfl (fun _ => by kernel_rfl) ?_)
    refine Xg.ops_op (by kernel_rfl) (Xg.opx_pure ((Value.int IntKind.u64 (0 : Int))) rfl (fun _ => by kernel_rfl) ?_)
    refine Xg.ops_op (by kernel_rfl) (Xg.opx_pure ((Value.int IntKind.u64 (3 : Int))) rfl (fun _ => by kernel_rfl) ?_)
    refine Xg.ops_nil ?_
    refine Xg.at_seq ?_
    refine Xg.at_seq ?_
    refine Xg.at_region ?_
    refine Xg.ops_op (by kernel_rfl) (Xg.opx_pure ((Value.int IntKind.u64 (0 : Int))) rfl (fun _ => by kernel_rfl) ?_)
    refine Xg.ops_op (by kernel_rfl) (Xg.opx_pure ((Value.bool false)) rfl (fun _ => by kernel_rfl) ?_)
    refine Xg.ops_op (by kernel_rfl) (Xg.opx_pure ((Value.bool false)) rfl (fun _ => by kernel_rfl) ?_)
    refine Xg.ops_op (by kernel_rfl) (Xg.opx_pure ((Value.int IntKind.u64 (3 : Int))) rfl (fun _ => by kernel_rfl) ?_)
    refine Xg.ops_op (by kernel_rfl) (Xg.opx_pure ((Value.bool false)) rfl (fun _ => by kernel_rfl) ?_)
    refine Xg.ops_op (by kernel_rfl) (Xg.opx_pure ((Value.bool false)) rfl (fun _ => by kernel_rfl) ?_)
    refine Xg.ops_nil ?_
    refine Xg.at_false (t := false) (by kernel_rfl) rfl ?_
    refine Xg.at_skip ?_
    refine Xg.at_seq ?_
    refine Xg.at_region ?_
    refine Xg.ops_op (by kernel_rfl) (Xg.opx_pure ((Value.int IntKind.u64 (3 : Int))) rfl (fun _ => by kernel_rfl) ?_)
    refine Xg.ops_op (by kernel_rfl) (Xg.opx_pure (.int .i64 ((3 : Int))) rfl (fun _ => by kernel_rfl) ?_)
    refine Xg.ops_op (by kernel_rfl) (Xg.opx_make_ints (elem := 3) (kd := .i64) (by_ := 8) (k1 := .i64) (k2 := .i64) (n := ((3 : Int))) (c := ((3 : Int))) ((3 : Nat)) ((3 : Nat)) [(0 : Int), (0 : Int), (0 : Int)] (by kernel_rfl) (by kernel_rfl) (by kernel_rfl) (by kernel_rfl) rfl rfl (by omega) (by omega) (by first | rfl | (simp; done)) fun xa1 xh1 => ?_)
    have xl1 : ([(0 : Int), (0 : Int), (0 : Int)] : List Int).length = ((3 : Nat)) := by first | rfl | (simp; done)
    refine Xg.ops_op (by kernel_rfl) (Xg.opx_pure ((Value.slice xa1 (3 : Nat) (3 : Nat))) rfl (fun _ => by kernel_rfl) ?_)
    refine Xg.ops_nil ?_
    refine Xg.at_seq ?_
    refine Xg.at_region ?_
    refine Xg.ops_op (by kernel_rfl) (Xg.opx_pure ((Value.slice xa1 (3 : Nat) (3 : Nat))) rfl (fun _ => by kernel_rfl) ?_)
    refine Xg.ops_op (by kernel_rfl) (Xg.opx_pure ((Value.slice (some (Addr.mk b (0 : Nat) none)) (1 : Nat) (1 : Nat))) rfl (fun _ => by kernel_rfl) ?_))
  refine Xg.ops_op (by kernel_rfl) (Xg.opx_copy_in (elem := 3) (xs := [0, 0, 0]) (ys := [-1]) (yv := .slice (some ⟨b, 0, none⟩) 1 1) (cx := 3) 0 8 0 3 [-1, 0, 0] 1 rfl (by kernel_rfl) (by kernel_rfl) (by kernel_rfl) (fun b e => e) (by kernel_rfl) (fun w hS => by exact row_rd hS 1 rfl rfl) (by decide) (by decide) rfl rfl rfl ?_)
  (focus
    refine Xg.ops_op (by kernel_rfl) (Xg.opx_pure ((iv 1)) rfl (fun _ => by kernel_rfl) ?_)
    refine Xg.ops_nil ?_
    refine Xg.at_seq ?_
    refine Xg.at_block ?_
    refine Xg.at_loop ?_
    refine Xg.at_seq ?_
    refine Xg.at_seq ?_
    refine Xg.at_region ?_
    refine Xg.ops_op (by kernel_rfl) (Xg.opx_pure ((iv 1)) rfl (fun _ => by kernel_rfl) ?_)
    refine Xg.ops_op (by kernel_rfl) (Xg.opx_pure ((Value.slice xa1 (3 : Nat) (3 : Nat))) rfl (fun _ => by kernel_rfl) ?_)
    refine Xg.ops_op (by kernel_rfl) (Xg.opx_pure ((iv 3)) rfl (fun _ => by kernel_rfl) ?_)
    refine Xg.ops_op (by kernel_rfl) (Xg.opx_pure ((Value.bool true)) rfl (fun _ => by kernel_rfl) ?_)
    refine Xg.ops_nil ?_
    refine Xg.at_true (t := true) (by kernel_rfl) rfl ?_
    refine Xg.at_skip ?_
    refine Xg.at_block ?_
    refine Xg.at_draw [7] [] (by kernel_rfl) ?_
    refine Xg.any_pure ((iv 1)) 0 (by kernel_rfl) rfl (by kernel_rfl) (by kernel_rfl) (by kernel_rfl) (by kernel_rfl) rfl (fun _ => by kernel_rfl) ?_
    refine Xg.any_pure ((Value.slice xa1 (3 : Nat) (3 : Nat))) 1 (by kernel_rfl) rfl (by kernel_rfl) (by kernel_rfl) (by kernel_rfl) (by kernel_rfl) rfl (fun _ => by kernel_rfl) ?_
    refine Xg.any_pure ((iv 1)) 2 (by kernel_rfl) rfl (by kernel_rfl) (by kernel_rfl) (by kernel_rfl) (by kernel_rfl) rfl (fun _ => by kernel_rfl) ?_
    refine Xg.any_pure (.slice (Xg.subA xa1 ((3 : Nat)) ((1 : Nat)) 1) (((3 : Nat)) - ((1 : Nat))) (((3 : Nat)) - ((1 : Nat)))) 3 (by kernel_rfl) rfl (by kernel_rfl) (by kernel_rfl) (by kernel_rfl) (by kernel_rfl) rfl (Xg.run_sl_lo (elem := 3) (a := xa1) (c := ((3 : Nat))) (len := ((3 : Nat))) (k1 := .i64) (e1 := ((1 : Int))) 1 ((1 : Nat)) (by kernel_rfl) (by kernel_rfl) (by kernel_rfl) (by kernel_rfl) rfl (by omega)) ?_
    refine Xg.any_pure ((Value.slice xa1 (3 : Nat) (3 : Nat))) 4 (by kernel_rfl) rfl (by kernel_rfl) (by kernel_rfl) (by kernel_rfl) (by kernel_rfl) rfl (fun _ => by kernel_rfl) ?_
    refine Xg.any_pure ((iv 1)) 5 (by kernel_rfl) rfl (by kernel_rfl) (by kernel_rfl) (by kernel_rfl) (by kernel_rfl) rfl (fun _ => by kernel_rfl) ?_
    refine Xg.any_pure (.slice xa1 ((1 : Nat)) ((3 : Nat))) 6 (by kernel_rfl) rfl (by kernel_rfl) (by kernel_rfl) (by kernel_rfl) (by kernel_rfl) rfl (Xg.run_sl_hi (elem := 3) (a := xa1) (c := ((3 : Nat))) (len := ((3 : Nat))) (k2 := .i64) (e2 := ((1 : Int))) 1 ((1 : Nat)) (by kernel_rfl) (by kernel_rfl) (by kernel_rfl) (by kernel_rfl) rfl (by omega)) ?_)
  refine Xg.any_each [7] (by kernel_rfl) rfl ⟨?_, trivial⟩
  refine Xg.comes_act rfl (by kernel_rfl) (by kernel_rfl) (Xg.opx_copy_in (elem := 3) (xs := [-1, 0, 0]) (ys := [-1]) (yv := .slice xa1 1 3) (a := xa1) (c := 3) (ax := Xg.subA xa1 3 1 1) (cx := 2) 0 8 1 2 [-1, -1, 0] 1 rfl (by kernel_rfl) (by kernel_rfl) (by kernel_rfl) (fun b e => by rw [e]; exact sub_at (by decide)) (by kernel_rfl) (fun w hS => by exact reads_rd (reads_hi (E := 3) (n := 3) (c := 3) (a := xa1) (sz := 1) (vs := ([-1, 0, 0] : List Int).map (Value.int .i64)) 1 (by decide)) 0 rfl hS) (by decide) (by decide) rfl rfl rfl ?_)
  refine Xg.acts Xg.owes_nil ?_
  (focus
    refine Xg.any_pure ((iv 2)) 8 (by kernel_rfl) rfl (by kernel_rfl) (by kernel_rfl) (by kernel_rfl) (by kernel_rfl) rfl (fun _ => by kernel_rfl) ?_
    refine Xg.any_pure ((iv 2)) 9 (by kernel_rfl) rfl (by kernel_rfl) (by kernel_rfl) (by kernel_rfl) (by kernel_rfl) rfl (fun _ => by kernel_rfl) ?_
    refine Xg.any_nil (by kernel_rfl) ?_
    refine Xg.at_inBlock ?_
    refine Xg.at_inLoop ?_
    refine Xg.at_seq ?_
    refine Xg.at_seq ?_
    refine Xg.at_region ?_
    refine Xg.ops_op (by kernel_rfl) (Xg.opx_pure ((iv 2)) rfl (fun _ => by kernel_rfl) ?_)
    refine Xg.ops_op (by kernel_rfl) (Xg.opx_pure ((Value.slice xa1 (3 : Nat) (3 : Nat))) rfl (fun _ => by kernel_rfl) ?_)
    refine Xg.ops_op (by kernel_rfl) (Xg.opx_pure ((iv 3)) rfl (fun _ => by kernel_rfl) ?_)
    refine Xg.ops_op (by kernel_rfl) (Xg.opx_pure ((Value.bool true)) rfl (fun _ => by kernel_rfl) ?_)
    refine Xg.ops_nil ?_
    refine Xg.at_true (t := true) (by kernel_rfl) rfl ?_
    refine Xg.at_skip ?_
    refine Xg.at_block ?_
    refine Xg.at_draw [7] [] (by kernel_rfl) ?_
    refine Xg.any_pure ((iv 2)) 0 (by kernel_rfl) rfl (by kernel_rfl) (by kernel_rfl) (by kernel_rfl) (by kernel_rfl) rfl (fun _ => by kernel_rfl) ?_
    refine Xg.any_pure ((Value.slice xa1 (3 : Nat) (3 : Nat))) 1 (by kernel_rfl) rfl (by kernel_rfl) (by kernel_rfl) (by kernel_rfl) (by kernel_rfl) rfl (fun _ => by kernel_rfl) ?_
    refine Xg.any_pure ((iv 2)) 2 (by kernel_rfl) rfl (by kernel_rfl) (by kernel_rfl) (by kernel_rfl) (by kernel_rfl) rfl (fun _ => by kernel_rfl) ?_
    refine Xg.any_pure (.slice (Xg.subA xa1 ((3 : Nat)) ((2 : Nat)) 1) (((3 : Nat)) - ((2 : Nat))) (((3 : Nat)) - ((2 : Nat)))) 3 (by kernel_rfl) rfl (by kernel_rfl) (by kernel_rfl) (by kernel_rfl) (by kernel_rfl) rfl (Xg.run_sl_lo (elem := 3) (a := xa1) (c := ((3 : Nat))) (len := ((3 : Nat))) (k1 := .i64) (e1 := ((2 : Int))) 1 ((2 : Nat)) (by kernel_rfl) (by kernel_rfl) (by kernel_rfl) (by kernel_rfl) rfl (by omega)) ?_
    refine Xg.any_pure ((Value.slice xa1 (3 : Nat) (3 : Nat))) 4 (by kernel_rfl) rfl (by kernel_rfl) (by kernel_rfl) (by kernel_rfl) (by kernel_rfl) rfl (fun _ => by kernel_rfl) ?_
    refine Xg.any_pure ((iv 2)) 5 (by kernel_rfl) rfl (by kernel_rfl) (by kernel_rfl) (by kernel_rfl) (by kernel_rfl) rfl (fun _ => by kernel_rfl) ?_
    refine Xg.any_pure (.slice xa1 ((2 : Nat)) ((3 : Nat))) 6 (by kernel_rfl) rfl (by kernel_rfl) (by kernel_rfl) (by kernel_rfl) (by kernel_rfl) rfl (Xg.run_sl_hi (elem := 3) (a := xa1) (c := ((3 : Nat))) (len := ((3 : Nat))) (k2 := .i64) (e2 := ((2 : Int))) 1 ((2 : Nat)) (by kernel_rfl) (by kernel_rfl) (by kernel_rfl) (by kernel_rfl) rfl (by omega)) ?_)
  refine Xg.any_each [7] (by kernel_rfl) rfl ⟨?_, trivial⟩
  refine Xg.comes_act rfl (by kernel_rfl) (by kernel_rfl) (Xg.opx_copy_in (elem := 3) (xs := [-1, -1, 0]) (ys := [-1, -1]) (yv := .slice xa1 2 3) (a := xa1) (c := 3) (ax := Xg.subA xa1 3 2 1) (cx := 1) 0 8 2 1 [-1, -1, -1] 1 rfl (by kernel_rfl) (by kernel_rfl) (by kernel_rfl) (fun b e => by rw [e]; exact sub_at (by decide)) (by kernel_rfl) (fun w hS => by exact reads_rd (reads_hi (E := 3) (n := 3) (c := 3) (a := xa1) (sz := 1) (vs := ([-1, -1, 0] : List Int).map (Value.int .i64)) 2 (by decide)) 0 rfl hS) (by decide) (by decide) rfl rfl rfl ?_)
  refine Xg.acts Xg.owes_nil ?_
  (focus
    refine Xg.any_pure ((iv 3)) 8 (by kernel_rfl) rfl (by kernel_rfl) (by kernel_rfl) (by kernel_rfl) (by kernel_rfl) rfl (fun _ => by kernel_rfl) ?_
    refine Xg.any_pure ((iv 3)) 9 (by kernel_rfl) rfl (by kernel_rfl) (by kernel_rfl) (by kernel_rfl) (by kernel_rfl) rfl (fun _ => by kernel_rfl) ?_
    refine Xg.any_nil (by kernel_rfl) ?_
    refine Xg.at_inBlock ?_
    refine Xg.at_inLoop ?_
    refine Xg.at_seq ?_
    refine Xg.at_seq ?_
    refine Xg.at_region ?_
    refine Xg.ops_op (by kernel_rfl) (Xg.opx_pure ((iv 3)) rfl (fun _ => by kernel_rfl) ?_)
    refine Xg.ops_op (by kernel_rfl) (Xg.opx_pure ((Value.slice xa1 (3 : Nat) (3 : Nat))) rfl (fun _ => by kernel_rfl) ?_)
    refine Xg.ops_op (by kernel_rfl) (Xg.opx_pure ((iv 3)) rfl (fun _ => by kernel_rfl) ?_)
    refine Xg.ops_op (by kernel_rfl) (Xg.opx_pure ((Value.bool false)) rfl (fun _ => by kernel_rfl) ?_)
    refine Xg.ops_nil ?_
    refine Xg.at_false (t := false) (by kernel_rfl) rfl ?_
    refine Xg.at_exit rfl ?_
    refine Xg.at_seq ?_
    refine Xg.at_region ?_
    refine Xg.ops_op (by kernel_rfl) (Xg.opx_pure ((Value.slice xa1 (3 : Nat) (3 : Nat))) rfl (fun _ => by kernel_rfl) ?_)
    refine Xg.ops_op (by kernel_rfl) (Xg.opx_pure ((Value.slice xa1 (3 : Nat) (3 : Nat))) rfl (fun _ => by kernel_rfl) ?_)
    refine Xg.ops_nil ?_
    refine Xg.at_ret_ps (v := (Value.slice xa1 (3 : Nat) (3 : Nat))) [0] [ints (3 : TypeId) IntKind.i64 xa1 (3 : Nat) [(-1 : Int), (-1 : Int), (-1 : Int)]] Go.Proofs.Try.func39 (fun _ => by kernel_rfl) (by kernel_rfl) (by kernel_rfl) ?_
    refine ⟨((xa1, (3 : Nat))), trivial, by kernel_rfl, by kernel_rfl⟩)

theorem mul64_4 : Does Try.prog 47 [.int .u64 1, .int .u64 4] [] (Ret (.tuple #[.int .u64 0, .int .u64 4]) []) := by
  (focus
    refine Xg.spec_of Go.Proofs.Try.func47 rfl Go.Proofs.Try.ntmps47 fun g F => ?_)
  (focus
    refine Xg.at_seq ?_
    refine Xg.at_region ?_
    refine Xg.ops_op (by kernel_rfl) (Xg.opx_pure ((Value.int IntKind.u64 (0 : Int))) rfl (fun _ => by kernel_rfl) ?_)
    refine Xg.ops_op (by kernel_rfl) (Xg.opx_pure ((Value.int IntKind.u64 (0 : Int))) rfl (fun _ => by kernel_rfl) ?_)
    refine Xg.ops_nil ?_
    refine Xg.at_seq ?_
    refine Xg.at_region ?_
    refine Xg.ops_op (by kernel_rfl) (Xg.opx_pure ((Value.int IntKind.u64 (1 : Int))) rfl (fun _ => by kernel_rfl) ?_)
    refine Xg.ops_op (by kernel_rfl) (Xg.opx_pure ((Value.int IntKind.u64 (1 : Int))) rfl (fun _ => by kernel_rfl) ?_)
    refine Xg.ops_op (by kernel_rfl) (Xg.opx_pure ((Value.int IntKind.u64 (1 : Int))) rfl (fun _ => by kernel_rfl) ?_)
    refine Xg.ops_nil ?_
    refine Xg.at_seq ?_
    refine Xg.at_region ?_
    refine Xg.ops_op (by kernel_rfl) (Xg.opx_pure ((Value.int IntKind.u64 (1 : Int))) rfl (fun _ => by kernel_rfl) ?_)
    refine Xg.ops_op (by kernel_rfl) (Xg.opx_pure ((Value.int IntKind.u64 (0 : Int))) rfl (fun _ => by kernel_rfl) ?_)
    refine Xg.ops_op (by kernel_rfl) (Xg.opx_pure ((Value.int IntKind.u64 (0 : Int))) rfl (fun _ => by kernel_rfl) ?_)
    refine Xg.ops_nil ?_
    refine Xg.at_seq ?_
    refine Xg.at_region ?_
    refine Xg.ops_op (by kernel_rfl) (Xg.opx_pure ((Value.int IntKind.u64 (4 : Int))) rfl (fun _ => by kernel_rfl) ?_)
    refine Xg.ops_op (by kernel_rfl) (Xg.opx_pure ((Value.int IntKind.u64 (4 : Int))) rfl (fun _ => by kernel_rfl) ?_)
    refine Xg.ops_op (by kernel_rfl) (Xg.opx_pure ((Value.int IntKind.u64 (4 : Int))) rfl (fun _ => by kernel_rfl) ?_)
    refine Xg.ops_nil ?_
    refine Xg.at_seq ?_
    refine Xg.at_region ?_
    refine Xg.ops_op (by kernel_rfl) (Xg.opx_pure ((Value.int IntKind.u64 (4 : Int))) rfl (fun _ => by kernel_rfl) ?_)
    refine Xg.ops_op (by kernel_rfl) (Xg.opx_pure ((Value.int IntKind.u64 (0 : Int))) rfl (fun _ => by kernel_rfl) ?_)
    refine Xg.ops_op (by kernel_rfl) (Xg.opx_pure ((Value.int IntKind.u64 (0 : Int))) rfl (fun _ => by kernel_rfl) ?_)
    refine Xg.ops_nil ?_
    refine Xg.at_seq ?_
    refine Xg.at_region ?_
    refine Xg.ops_op (by kernel_rfl) (Xg.opx_pure ((Value.int IntKind.u64 (1 : Int))) rfl (fun _ => by kernel_rfl) ?_)
    refine Xg.ops_op (by kernel_rfl) (Xg.opx_pure ((Value.int IntKind.u64 (4 : Int))) rfl (fun _ => by kernel_rfl) ?_)
    refine Xg.ops_op (by kernel_rfl) (Xg.opx_pure ((Value.int IntKind.u64 (4 : Int))) rfl (fun _ => by kernel_rfl) ?_)
    refine Xg.ops_op (by kernel_rfl) (Xg.opx_pure ((Value.int IntKind.u64 (4 : Int))) rfl (fun _ => by kernel_rfl) ?_)
    refine Xg.ops_nil ?_
    refine Xg.at_seq ?_
    refine Xg.at_region ?_
    refine Xg.ops_op (by kernel_rfl) (Xg.opx_pure ((Value.int IntKind.u64 (0 : Int))) rfl (fun _ => by kernel_rfl) ?_)
    refine Xg.ops_op (by kernel_rfl) (Xg.opx_pure ((Value.int IntKind.u64 (4 : Int))) rfl (fun _ => by kernel_rfl) ?_)
    refine Xg.ops_op (by kernel_rfl) (Xg.opx_pure ((Value.int IntKind.u64 (0 : Int))) rfl (fun _ => by kernel_rfl) ?_)
    refine Xg.ops_op (by kernel_rfl) (Xg.opx_pure ((Value.int IntKind.u64 (4 : Int))) rfl (fun _ => by kernel_rfl) ?_)
    refine Xg.ops_op (by kernel_rfl) (Xg.opx_pure ((Value.int IntKind.u64 (0 : Int))) rfl (fun _ => by kernel_rfl) ?_)
    refine Xg.ops_op (by kernel_rfl) (Xg.opx_pure ((Value.int IntKind.u64 (0 : Int))) rfl (fun _ => by kernel_rfl) ?_)
    refine Xg.ops_op (by kernel_rfl) (Xg.opx_pure ((Value.int IntKind.u64 (0 : Int))) rfl (fun _ => by kernel_rfl) ?_)
    refine Xg.ops_nil ?_
    refine Xg.at_seq ?_
    refine Xg.at_region ?_
    refine Xg.ops_op (by kernel_rfl) (Xg.opx_pure ((Value.int IntKind.u64 (0 : Int))) rfl (fun _ => by kernel_rfl) ?_)
    refine Xg.ops_op (by kernel_rfl) (Xg.opx_pure ((Value.int IntKind.u64 (0 : Int))) rfl (fun _ => by kernel_rfl) ?_)
    refine Xg.ops_op (by kernel_rfl) (Xg.opx_pure ((Value.int IntKind.u64 (0 : Int))) rfl (fun _ => by kernel_rfl) ?_)
    refine Xg.ops_nil ?_
    refine Xg.at_seq ?_
    refine Xg.at_region ?_
    refine Xg.ops_op (by kernel_rfl) (Xg.opx_pure ((Value.int IntKind.u64 (0 : Int))) rfl (fun _ => by kernel_rfl) ?_)
    refine Xg.ops_op (by kernel_rfl) (Xg.opx_pure ((Value.int IntKind.u64 (0 : Int))) rfl (fun _ => by kernel_rfl) ?_)
    refine Xg.ops_op (by kernel_rfl) (Xg.opx_pure ((Value.int IntKind.u64 (0 : Int))) rfl (fun _ => by kernel_rfl) ?_)
    refine Xg.ops_nil ?_
    refine Xg.at_seq ?_
    refine Xg.at_region ?_
    refine Xg.ops_op (by kernel_rfl) (Xg.opx_pure ((Value.int IntKind.u64 (0 : Int))) rfl (fun _ => by kernel_rfl) ?_)
    refine Xg.ops_op (by kernel_rfl) (Xg.opx_pure ((Value.int IntKind.u64 (1 : Int))) rfl (fun _ => by kernel_rfl) ?_)
    refine Xg.ops_op (by kernel_rfl) (Xg.opx_pure ((Value.int IntKind.u64 (0 : Int))) rfl (fun _ => by kernel_rfl) ?_)
    refine Xg.ops_op (by kernel_rfl) (Xg.opx_pure ((Value.int IntKind.u64 (0 : Int))) rfl (fun _ => by kernel_rfl) ?_)
    refine Xg.ops_op (by kernel_rfl) (Xg.opx_pure ((Value.int IntKind.u64 (0 : Int))) rfl (fun _ => by kernel_rfl) ?_)
    refine Xg.ops_op (by kernel_rfl) (Xg.opx_pure ((Value.int IntKind.u64 (0 : Int))) rfl (fun _ => by kernel_rfl) ?_)
    refine Xg.ops_nil ?_
    refine Xg.at_seq ?_
    refine Xg.at_region ?_
    refine Xg.ops_op (by kernel_rfl) (Xg.opx_pure ((Value.int IntKind.u64 (0 : Int))) rfl (fun _ => by kernel_rfl) ?_)
    refine Xg.ops_op (by kernel_rfl) (Xg.opx_pure ((Value.int IntKind.u64 (0 : Int))) rfl (fun _ => by kernel_rfl) ?_)
    refine Xg.ops_op (by kernel_rfl) (Xg.opx_pure ((Value.int IntKind.u64 (0 : Int))) rfl (fun _ => by kernel_rfl) ?_)
    refine Xg.ops_op (by kernel_rfl) (Xg.opx_pure ((Value.int IntKind.u64 (0 : Int))) rfl (fun _ => by kernel_rfl) ?_)
    refine Xg.ops_op (by kernel_rfl) (Xg.opx_pure ((Value.int IntKind.u64 (0 : Int))) rfl (fun _ => by kernel_rfl) ?_)
    refine Xg.ops_op (by kernel_rfl) (Xg.opx_pure ((Value.int IntKind.u64 (0 : Int))) rfl (fun _ => by kernel_rfl) ?_)
    refine Xg.ops_op (by kernel_rfl) (Xg.opx_pure ((Value.int IntKind.u64 (0 : Int))) rfl (fun _ => by kernel_rfl) ?_)
    refine Xg.ops_op (by kernel_rfl) (Xg.opx_pure ((Value.int IntKind.u64 (0 : Int))) rfl (fun _ => by kernel_rfl) ?_)
    refine Xg.ops_op (by kernel_rfl) (Xg.opx_pure ((Value.int IntKind.u64 (0 : Int))) rfl (fun _ => by kernel_rfl) ?_)
    refine Xg.ops_nil ?_
    refine Xg.at_seq ?_
    refine Xg.at_region ?_
    refine Xg.ops_op (by kernel_rfl) (Xg.opx_pure ((Value.int IntKind.u64 (1 : Int))) rfl (fun _ => by kernel_rfl) ?_)
    refine Xg.ops_op (by kernel_rfl) (Xg.opx_pure ((Value.int IntKind.u64 (4 : Int))) rfl (fun _ => by kernel_rfl) ?_)
    refine Xg.ops_op (by kernel_rfl) (Xg.opx_pure ((Value.int IntKind.u64 (4 : Int))) rfl (fun _ => by kernel_rfl) ?_)
    refine Xg.ops_op (by kernel_rfl) (Xg.opx_pure ((Value.int IntKind.u64 (4 : Int))) rfl (fun _ => by kernel_rfl) ?_)
    refine Xg.ops_nil ?_
    refine Xg.at_ret_ps (v := (Value.tuple #[Value.int IntKind.u64 (0 : Int), Value.int IntKind.u64 (4 : Int)])) [] [] Go.Proofs.Try.func47 (fun _ => by kernel_rfl) (by kernel_rfl) (by kernel_rfl) ?_
    exact ⟨by kernel_rfl, by kernel_rfl⟩)
theorem mul_4 : Does Try.prog 45 [.int .u64 1, .int .u64 4] [] (Ret (.tuple #[.int .u64 0, .int .u64 4]) []) := by
  (focus
    refine Xg.spec_of Go.Proofs.Try.func45 rfl Go.Proofs.Try.ntmps45 fun g F => ?_)
  (focus
    refine Xg.at_seq ?_
    refine Xg.at_region ?_
    refine Xg.ops_op (by kernel_rfl) (Xg.opx_pure ((Value.int IntKind.u64 (0 : Int))) rfl (fun _ => by kernel_rfl) ?_)
    refine Xg.ops_op (by kernel_rfl) (Xg.opx_pure ((Value.int IntKind.u64 (0 : Int))) rfl (fun _ => by kernel_rfl) ?_)
    refine Xg.ops_nil ?_
    refine Xg.at_seq ?_
    refine Xg.at_false (t := false) (by kernel_rfl) rfl ?_
    refine Xg.at_skip ?_
    refine Xg.at_seq ?_
    refine Xg.at_region ?_
    refine Xg.ops_op (by kernel_rfl) (Xg.opx_pure ((Value.int IntKind.u64 (1 : Int))) rfl (fun _ => by kernel_rfl) ?_)
    refine Xg.ops_op (by kernel_rfl) (Xg.opx_pure ((Value.int IntKind.u64 (4 : Int))) rfl (fun _ => by kernel_rfl) ?_)
    refine Xg.ops_op (by kernel_rfl) (Xg.opx_call1' [] [] (fun _ => by kernel_rfl) (@Go.Proofs.Ytijjficnhpokdaa.mul64_4 ) (by kernel_rfl) (by kernel_rfl) (by kernel_rfl) ?_)
    refine Xg.ops_op (by kernel_rfl) (Xg.opx_pure ((Value.tuple #[Value.int IntKind.u64 (0 : Int), Value.int IntKind.u64 (4 : Int)])) rfl (fun _ => by kernel_rfl) ?_)
    refine Xg.ops_op (by kernel_rfl) (Xg.opx_pure ((Value.int IntKind.u64 (0 : Int))) rfl (fun _ => by kernel_rfl) ?_)
    refine Xg.ops_op (by kernel_rfl) (Xg.opx_pure ((Value.int IntKind.u64 (4 : Int))) rfl (fun _ => by kernel_rfl) ?_)
    refine Xg.ops_op (by kernel_rfl) (Xg.opx_pure ((Value.int IntKind.u64 (0 : Int))) rfl (fun _ => by kernel_rfl) ?_)
    refine Xg.ops_op (by kernel_rfl) (Xg.opx_pure ((Value.int IntKind.u64 (4 : Int))) rfl (fun _ => by kernel_rfl) ?_)
    refine Xg.ops_nil ?_
    refine Xg.at_seq ?_
    refine Xg.at_region ?_
    refine Xg.ops_op (by kernel_rfl) (Xg.opx_pure ((Value.int IntKind.u64 (0 : Int))) rfl (fun _ => by kernel_rfl) ?_)
    refine Xg.ops_op (by kernel_rfl) (Xg.opx_pure ((Value.int IntKind.u64 (4 : Int))) rfl (fun _ => by kernel_rfl) ?_)
    refine Xg.ops_op (by kernel_rfl) (Xg.opx_pure ((Value.int IntKind.u64 (0 : Int))) rfl (fun _ => by kernel_rfl) ?_)
    refine Xg.ops_op (by kernel_rfl) (Xg.opx_pure ((Value.int IntKind.u64 (4 : Int))) rfl (fun _ => by kernel_rfl) ?_)
    refine Xg.ops_nil ?_
    refine Xg.at_ret_ps (v := (Value.tuple #[Value.int IntKind.u64 (0 : Int), Value.int IntKind.u64 (4 : Int)])) [] [] Go.Proofs.Try.func45 (fun _ => by kernel_rfl) (by kernel_rfl) (by kernel_rfl) ?_
    exact ⟨by kernel_rfl, by kernel_rfl⟩)
theorem repeat_4 (b : Nat) : Does Try.prog 39 [.slice (some ⟨b, 0, none⟩) 1 1, .int .i64 4] [row b 3 [.int .i64 (-1)]]
    (RetE (fun x : Option Addr × Nat => True) (fun x => .slice x.1 4 x.2) (fun x => [ints 3 .i64 x.1 x.2 [-1, -1, -1, -1]])) := by
  (focus
    refine Xg.spec_of Go.Proofs.Try.func39 rfl Go.Proofs.Try.ntmps39 fun g F => ?_)
  (focus
    refine Xg.at_seq ?_
    refine Xg.at_region ?_
    refine Xg.ops_op (by kernel_rfl) (Xg.opx_pure ((Value.slice none (0 : Nat) (0 : Nat))) rfl (fun _ => by kernel_rfl) ?_)
    refine Xg.ops_nil ?_
    refine Xg.at_seq ?_
    refine Xg.at_seq ?_
    refine Xg.at_region ?_
    refine Xg.ops_op (by kernel_rfl) (Xg.opx_pure ((iv 4)) rfl (fun _ => by kernel_rfl) ?_)
    refine Xg.ops_op (by kernel_rfl) (Xg.opx_pure ((Value.bool false)) rfl (fun _ => by kernel_rfl) ?_)
    refine Xg.ops_nil ?_
    refine Xg.at_false (t := false) (by kernel_rfl) rfl ?_
    refine Xg.at_skip ?_
    refine Xg.at_seq ?_
    refine Xg.at_region ?_
    refine Xg.ops_op (by kernel_rfl) (Xg.opx_pure ((Value.slice (some (Addr.mk b (0 : Nat) none)) (1 : Nat) (1 : Nat))) rfl (fun _ => by kernel_rfl) ?_)
    refine Xg.ops_op (by kernel_rfl) (Xg.opx_pure ((iv 1)) rfl (fun _ => by kernel_rfl) ?_)
    refine Xg.ops_op (by kernel_rfl) (Xg.opx_pure (.int .u64 ((1 : Int))) rfl (fun _ => by kernel_rfl) ?_)
    refine Xg.ops_op (by kernel_rfl) (Xg.opx_pure ((iv 4)) rfl (fun _ => by kernel_rfl) ?_)
    refine Xg.ops_op (by kernel_rfl) (Xg.opx_pure (.int .u64 ((4 : Int))) rfl (fun _ => by kernel_rfl) ?_)
    refine Xg.ops_op (by kernel_rfl) (Xg.opx_call1' [] [row b (3 : TypeId) [iv (-1)]] (fun _ => by kernel_rfl) (@Go.Proofs.Ytijjficnhpokdaa.mul_4 ) (by kernel_rfl) (by kernel_rfl) (by kernel_rfl) ?_)
    refine Xg.ops_op (by kernel_rfl) (Xg.opx_pure ((Value.tuple #[Value.int IntKind.u64 (0 : Int), Value.int IntKind.u64 (4 : Int)])) rfl (fun _ => by kernel_rfl) ?_)
    refine Xg.ops_op (by kernel_rfl) (Xg.opx_pure ((Value.int IntKind.u64 (0 : Int))) rfl (fun _ => by kernel_rfl) ?_)
    refine Xg.ops_op (by kernel_rfl) (Xg.opx_pure ((Value.int IntKind.u64 (4 : Int))) rfl (fun _ => by kernel_rfl) ?_)
    refine Xg.ops_op (by kernel_rfl) (Xg.opx_pure ((Value.int IntKind.u64 (0 : Int))) rfl (fun _ => by kernel_rfl) ?_)
    refine Xg.ops_op (by kernel_rfl) (Xg.opx_pure ((Value.int IntKind.u64 (4 : Int))) rfl (fun _ => by kernel_rfl) ?_)
    refine Xg.ops_nil ?_
    refine Xg.at_seq ?_
    refine Xg.at_seq ?_
    refine Xg.at_region ?_
    refine Xg.ops_op (by kernel_rfl) (Xg.opx_pure ((Value.int IntKind.u64 (0 : Int))) rfl (fun _ => by kernel_rfl) ?_)
    refine Xg.ops_op (by kernel_rfl) (Xg.opx_pure ((Value.bool false)) rfl (fun _ => by kernel_rfl) ?_)
    refine Xg.ops_op (by kernel_rfl) (Xg.opx_pure ((Value.bool false)) rfl (fun _ => by kernel_rfl) ?_)
    refine Xg.ops_op (by kernel_rfl) (Xg.opx_pure ((Value.int IntKind.u64 (4 : Int))) rfl (fun _ => by kernel_rfl) ?_)
    refine Xg.ops_op (by kernel_rfl) (Xg.opx_pure ((Value.bool false)) rfl (fun _ => by kernel_rfl) ?_)
    refine Xg.ops_op (by kernel_rfl) (Xg.opx_pure ((Value.bool false)) rfl (fun _ => by kernel_rfl) ?_)
    refine Xg.ops_nil ?_
    refine Xg.at_false (t := false) (by kernel_rfl) rfl ?_
    refine Xg.at_skip ?_
    refine Xg.at_seq ?_
    refine Xg.at_region ?_
    refine Xg.ops_op (by kernel_rfl) (Xg.opx_pure ((Value.int IntKind.u64 (4 : Int))) rfl (fun _ => by kernel_rfl) ?_)
    refine Xg.ops_op (by kernel_rfl) (Xg.opx_pure (.int .i64 ((4 : Int))) rfl (fun _ => by kernel_rfl) ?_)
    refine Xg.ops_op (by kernel_rfl) (Xg.opx_make_ints (elem := 3) (kd := .i64) (by_ := 8) (k1 := .i64) (k2 := .i64) (n := ((4 : Int))) (c := ((4 : Int))) ((4 : Nat)) ((4 : Nat)) [(0 : Int), (0 : Int), (0 : Int), (0 : Int)] (by kernel_rfl) (by kernel_rfl) (by kernel_rfl) (by kernel_rfl) rfl rfl (by omega) (by omega) (by first | rfl | (simp; done)) fun xa1 xh1 => ?_)
    have xl1 : ([(0 : Int), (0 : Int), (0 : Int), (0 : Int)] : List Int).length = ((4 : Nat)) := by first | rfl | (simp; done)
    refine Xg.ops_op (by kernel_rfl) (Xg.opx_pure ((Value.slice xa1 (4 : Nat) (4 : Nat))) rfl (fun _ => by kernel_rfl) ?_)
    refine Xg.ops_nil ?_
    refine Xg.at_seq ?_
    refine Xg.at_region ?_
    refine Xg.ops_op (by kernel_rfl) (Xg.opx_pure ((Value.slice xa1 (4 : Nat) (4 : Nat))) rfl (fun _ => by kernel_rfl) ?_)
    refine Xg.ops_op (by kernel_rfl) (Xg.opx_pure ((Value.slice (some (Addr.mk b (0 : Nat) none)) (1 : Nat) (1 : Nat))) rfl (fun _ => by kernel_rfl) ?_))
  refine Xg.ops_op (by kernel_rfl) (Xg.opx_copy_in (elem := 3) (xs := [0, 0, 0, 0]) (ys := [-1]) (yv := .slice (some ⟨b, 0, none⟩) 1 1) (cx := 4) 0 8 0 4 [-1, 0, 0, 0] 1 rfl (by kernel_rfl) (by kernel_rfl) (by kernel_rfl) (fun b e => e) (by kernel_rfl) (fun w hS => by exact row_rd hS 1 rfl rfl) (by decide) (by decide) rfl rfl rfl ?_)
  (focus
    refine Xg.ops_op (by kernel_rfl) (Xg.opx_pure ((iv 1)) rfl (fun _ => by kernel_rfl) ?_)
    refine Xg.ops_nil ?_
    refine Xg.at_seq ?_
    refine Xg.at_block ?_
    refine Xg.at_loop ?_
    refine Xg.at_seq ?_
    refine Xg.at_seq ?_
    refine Xg.at_region ?_
    refine Xg.ops_op (by kernel_rfl) (Xg.opx_pure ((iv 1)) rfl (fun _ => by kernel_rfl) ?_)
    refine Xg.ops_op (by kernel_rfl) (Xg.opx_pure ((Value.slice xa1 (4 : Nat) (4 : Nat))) rfl (fun _ => by kernel_rfl) ?_)
    refine Xg.ops_op (by kernel_rfl) (Xg.opx_pure ((iv 4)) rfl (fun _ => by kernel_rfl) ?_)
    refine Xg.ops_op (by kernel_rfl) (Xg.opx_pure ((Value.bool true)) rfl (fun _ => by kernel_rfl) ?_)
    refine Xg.ops_nil ?_
    refine Xg.at_true (t := true) (by kernel_rfl) rfl ?_
    refine Xg.at_skip ?_
    refine Xg.at_block ?_
    refine Xg.at_draw [7] [] (by kernel_rfl) ?_
    refine Xg.any_pure ((iv 1)) 0 (by kernel_rfl) rfl (by kernel_rfl) (by kernel_rfl) (by kernel_rfl) (by kernel_rfl) rfl (fun _ => by kernel_rfl) ?_
    refine Xg.any_pure ((Value.slice xa1 (4 : Nat) (4 : Nat))) 1 (by kernel_rfl) rfl (by kernel_rfl) (by kernel_rfl) (by kernel_rfl) (by kernel_rfl) rfl (fun _ => by kernel_rfl) ?_
    refine Xg.any_pure ((iv 1)) 2 (by kernel_rfl) rfl (by kernel_rfl) (by kernel_rfl) (by kernel_rfl) (by kernel_rfl) rfl (fun _ => by kernel_rfl) ?_
    refine Xg.any_pure (.slice (Xg.subA xa1 ((4 : Nat)) ((1 : Nat)) 1) (((4 : Nat)) - ((1 : Nat))) (((4 : Nat)) - ((1 : Nat)))) 3 (by kernel_rfl) rfl (by kernel_rfl) (by kernel_rfl) (by kernel_rfl) (by kernel_rfl) rfl (Xg.run_sl_lo (elem := 3) (a := xa1) (c := ((4 : Nat))) (len := ((4 : Nat))) (k1 := .i64) (e1 := ((1 : Int))) 1 ((1 : Nat)) (by kernel_rfl) (by kernel_rfl) (by kernel_rfl) (by kernel_rfl) rfl (by omega)) ?_
    refine Xg.any_pure ((Value.slice xa1 (4 : Nat) (4 : Nat))) 4 (by kernel_rfl) rfl (by kernel_rfl) (by kernel_rfl) (by kernel_rfl) (by kernel_rfl) rfl (fun _ => by kernel_rfl) ?_
    refine Xg.any_pure ((iv 1)) 5 (by kernel_rfl) rfl (by kernel_rfl) (by kernel_rfl) (by kernel_rfl) (by kernel_rfl) rfl (fun _ => by kernel_rfl) ?_
    refine Xg.any_pure (.slice xa1 ((1 : Nat)) ((4 : Nat))) 6 (by kernel_rfl) rfl (by kernel_rfl) (by kernel_rfl) (by kernel_rfl) (by kernel_rfl) rfl (Xg.run_sl_hi (elem := 3) (a := xa1) (c := ((4 : Nat))) (len := ((4 : Nat))) (k2 := .i64) (e2 := ((1 : Int))) 1 ((1 : Nat)) (by kernel_rfl) (by kernel_rfl) (by kernel_rfl) (by kernel_rfl) rfl (by omega)) ?_)
  refine Xg.any_each [7] (by kernel_rfl) rfl ⟨?_, trivial⟩
  refine Xg.comes_act rfl (by kernel_rfl) (by kernel_rfl) (Xg.opx_copy_in (elem := 3) (xs := [-1, 0, 0, 0]) (ys := [-1]) (yv := .slice xa1 1 4) (a := xa1) (c := 4) (ax := Xg.subA xa1 4 1 1) (cx := 3) 0 8 1 3 [-1, -1, 0, 0] 1 rfl (by kernel_rfl) (by kernel_rfl) (by kernel_rfl) (fun b e => by rw [e]; exact sub_at (by decide)) (by kernel_rfl) (fun w hS => by exact reads_rd (reads_hi (E := 3) (n := 4) (c := 4) (a := xa1) (sz := 1) (vs := ([-1, 0, 0, 0] : List Int).map (Value.int .i64)) 1 (by decide)) 0 rfl hS) (by decide) (by decide) rfl rfl rfl ?_)
  refine Xg.acts Xg.owes_nil ?_
  (focus
    refine Xg.any_pure ((iv 2)) 8 (by kernel_rfl) rfl (by kernel_rfl) (by kernel_rfl) (by kernel_rfl) (by kernel_rfl) rfl (fun _ => by kernel_rfl) ?_
    refine Xg.any_pure ((iv 2)) 9 (by kernel_rfl) rfl (by kernel_rfl) (by kernel_rfl) (by kernel_rfl) (by kernel_rfl) rfl (fun _ => by kernel_rfl) ?_
    refine Xg.any_nil (by kernel_rfl) ?_
    refine Xg.at_inBlock ?_
    refine Xg.at_inLoop ?_
    refine Xg.at_seq ?_
    refine Xg.at_seq ?_
    refine Xg.at_region ?_
    refine Xg.ops_op (by kernel_rfl) (Xg.opx_pure ((iv 2)) rfl (fun _ => by kernel_rfl) ?_)
    refine Xg.ops_op (by kernel_rfl) (Xg.opx_pure ((Value.slice xa1 (4 : Nat) (4 : Nat))) rfl (fun _ => by kernel_rfl) ?_)
    refine Xg.ops_op (by kernel_rfl) (Xg.opx_pure ((iv 4)) rfl (fun _ => by kernel_rfl) ?_)
    refine Xg.ops_op (by kernel_rfl) (Xg.opx_pure ((Value.bool true)) rfl (fun _ => by kernel_rfl) ?_)
    refine Xg.ops_nil ?_
    refine Xg.at_true (t := true) (by kernel_rfl) rfl ?_
    refine Xg.at_skip ?_
    refine Xg.at_block ?_
    refine Xg.at_draw [7] [] (by kernel_rfl) ?_
    refine Xg.any_pure ((iv 2)) 0 (by kernel_rfl) rfl (by kernel_rfl) (by kernel_rfl) (by kernel_rfl) (by kernel_rfl) rfl (fun _ => by kernel_rfl) ?_
    refine Xg.any_pure ((Value.slice xa1 (4 : Nat) (4 : Nat))) 1 (by kernel_rfl) rfl (by kernel_rfl) (by kernel_rfl) (by kernel_rfl) (by kernel_rfl) rfl (fun _ => by kernel_rfl) ?_
    refine Xg.any_pure ((iv 2)) 2 (by kernel_rfl) rfl (by kernel_rfl) (by kernel_rfl) (by kernel_rfl) (by kernel_rfl) rfl (fun _ => by kernel_rfl) ?_
    refine Xg.any_pure (.slice (Xg.subA xa1 ((4 : Nat)) ((2 : Nat)) 1) (((4 : Nat)) - ((2 : Nat))) (((4 : Nat)) - ((2 : Nat)))) 3 (by kernel_rfl) rfl (by kernel_rfl) (by kernel_rfl) (by kernel_rfl) (by kernel_rfl) rfl (Xg.run_sl_lo (elem := 3) (a := xa1) (c := ((4 : Nat))) (len := ((4 : Nat))) (k1 := .i64) (e1 := ((2 : Int))) 1 ((2 : Nat)) (by kernel_rfl) (by kernel_rfl) (by kernel_rfl) (by kernel_rfl) rfl (by omega)) ?_
    refine Xg.any_pure ((Value.slice xa1 (4 : Nat) (4 : Nat))) 4 (by kernel_rfl) rfl (by kernel_rfl) (by kernel_rfl) (by kernel_rfl) (by kernel_rfl) rfl (fun _ => by kernel_rfl) ?_
    refine Xg.any_pure ((iv 2)) 5 (by kernel_rfl) rfl (by kernel_rfl) (by kernel_rfl) (by kernel_rfl) (by kernel_rfl) rfl (fun _ => by kernel_rfl) ?_
    refine Xg.any_pure (.slice xa1 ((2 : Nat)) ((4 : Nat))) 6 (by kernel_rfl) rfl (by kernel_rfl) (by kernel_rfl) (by kernel_rfl) (by kernel_rfl) rfl (Xg.run_sl_hi (elem := 3) (a := xa1) (c := ((4 : Nat))) (len := ((4 : Nat))) (k2 := .i64) (e2 := ((2 : Int))) 1 ((2 : Nat)) (by kernel_rfl) (by kernel_rfl) (by kernel_rfl) (by kernel_rfl) rfl (by omega)) ?_)
  refine Xg.any_each [7] (by kernel_rfl) rfl ⟨?_, trivial⟩
  refine Xg.comes_act rfl (by kernel_rfl) (by kernel_rfl) (Xg.opx_copy_in (elem := 3) (xs := [-1, -1, 0, 0]) (ys := [-1, -1]) (yv := .slice xa1 2 4) (a := xa1) (c := 4) (ax := Xg.subA xa1 4 2 1) (cx := 2) 0 8 2 2 [-1, -1, -1, -1] 2 rfl (by kernel_rfl) (by kernel_rfl) (by kernel_rfl) (fun b e => by rw [e]; exact sub_at (by decide)) (by kernel_rfl) (fun w hS => by exact reads_rd (reads_hi (E := 3) (n := 4) (c := 4) (a := xa1) (sz := 1) (vs := ([-1, -1, 0, 0] : List Int).map (Value.int .i64)) 2 (by decide)) 0 rfl hS) (by decide) (by decide) rfl rfl rfl ?_)
  refine Xg.acts Xg.owes_nil ?_
  (focus
    refine Xg.any_pure ((iv 4)) 8 (by kernel_rfl) rfl (by kernel_rfl) (by kernel_rfl) (by kernel_rfl) (by kernel_rfl) rfl (fun _ => by kernel_rfl) ?_
    refine Xg.any_pure ((iv 4)) 9 (by kernel_rfl) rfl (by kernel_rfl) (by kernel_rfl) (by kernel_rfl) (by kernel_rfl) rfl (fun _ => by kernel_rfl) ?_
    refine Xg.any_nil (by kernel_rfl) ?_
    refine Xg.at_inBlock ?_
    refine Xg.at_inLoop ?_
    refine Xg.at_seq ?_
    refine Xg.at_seq ?_
    refine Xg.at_region ?_
    refine Xg.ops_op (by kernel_rfl) (Xg.opx_pure ((iv 4)) rfl (fun _ => by kernel_rfl) ?_)
    refine Xg.ops_op (by kernel_rfl) (Xg.opx_pure ((Value.slice xa1 (4 : Nat) (4 : Nat))) rfl (fun _ => by kernel_rfl) ?_)
    refine Xg.ops_op (by kernel_rfl) (Xg.opx_pure ((iv 4)) rfl (fun _ => by kernel_rfl) ?_)
    refine Xg.ops_op (by kernel_rfl) (Xg.opx_pure ((Value.bool false)) rfl (fun _ => by kernel_rfl) ?_)
    refine Xg.ops_nil ?_
    refine Xg.at_false (t := false) (by kernel_rfl) rfl ?_
    refine Xg.at_exit rfl ?_
    refine Xg.at_seq ?_
    refine Xg.at_region ?_
    refine Xg.ops_op (by kernel_rfl) (Xg.opx_pure ((Value.slice xa1 (4 : Nat) (4 : Nat))) rfl (fun _ => by kernel_rfl) ?_)
    refine Xg.ops_op (by kernel_rfl) (Xg.opx_pure ((Value.slice xa1 (4 : Nat) (4 : Nat))) rfl (fun _ => by kernel_rfl) ?_)
    refine Xg.ops_nil ?_
    refine Xg.at_ret_ps (v := (Value.slice xa1 (4 : Nat) (4 : Nat))) [0] [ints (3 : TypeId) IntKind.i64 xa1 (4 : Nat) [(-1 : Int), (-1 : Int), (-1 : Int), (-1 : Int)]] Go.Proofs.Try.func39 (fun _ => by kernel_rfl) (by kernel_rfl) (by kernel_rfl) ?_
    refine ⟨((xa1, (4 : Nat))), trivial, by kernel_rfl, by kernel_rfl⟩)

theorem mul64_5 : Does Try.prog 47 [.int .u64 1, .int .u64 5] [] (Ret (.tuple #[.int .u64 0, .int .u64 5]) []) := by
  (focus
    refine Xg.spec_of Go.Proofs.Try.func47 rfl Go.Proofs.Try.ntmps47 fun g F => ?_)
  (focus
    refine Xg.at_seq ?_
    refine Xg.at_region ?_
    refine Xg.ops_op (by kernel_rfl) (Xg.opx_pure ((Value.int IntKind.u64 (0 : Int))) rfl (fun _ => by kernel_rfl) ?_)
    refine Xg.ops_op (by kernel_rfl) (Xg.opx_pure ((Value.int IntKind.u64 (0 : Int))) rfl (fun _ => by kernel_rfl) ?_)
    refine Xg.ops_nil ?_
    refine Xg.at_seq ?_
    refine Xg.at_region ?_
    refine Xg.ops_op (by kernel_rfl) (Xg.opx_pure ((Value.int IntKind.u64 (1 : Int))) rfl (fun _ => by kernel_rfl) ?_)
    refine Xg.ops_op (by kernel_rfl) (Xg.opx_pure ((Value.int IntKind.u64 (1 : Int))) rfl (fun _ => by kernel_rfl) ?_)
    refine Xg.ops_op (by kernel_rfl) (Xg.opx_pure ((Value.int IntKind.u64 (1 : Int))) rfl (fun _ => by kernel_rfl) ?_)
    refine Xg.ops_nil ?_
    refine Xg.at_seq ?_
    refine Xg.at_region ?_
    refine Xg.ops_op (by kernel_rfl) (Xg.opx_pure ((Value.int IntKind.u64 (1 : Int))) rfl (fun _ => by kernel_rfl) ?_)
    refine Xg.ops_op (by kernel_rfl) (Xg.opx_pure ((Value.int IntKind.u64 (0 : Int))) rfl (fun _ => by kernel_rfl) ?_)
    refine Xg.ops_op (by kernel_rfl) (Xg.opx_pure ((Value.int IntKind.u64 (0 : Int))) rfl (fun _ => by kernel_rfl) ?_)
    refine Xg.ops_nil ?_
    refine Xg.at_seq ?_
    refine Xg.at_region ?_
    refine Xg.ops_op (by kernel_rfl) (Xg.opx_pure ((Value.int IntKind.u64 (5 : Int))) rfl (fun _ => by kernel_rfl) ?_)
    refine Xg.ops_op (by kernel_rfl) (Xg.opx_pure ((Value.int IntKind.u64 (5 : Int))) rfl (fun _ => by kernel_rfl) ?_)
    refine Xg.ops_op (by kernel_rfl) (Xg.opx_pure ((Value.int IntKind.u64 (5 : Int))) rfl (fun _ => by kernel_rfl) ?_)
    refine Xg.ops_nil ?_
    refine Xg.at_seq ?_
    refine Xg.at_region ?_
    refine Xg.ops_op (by kernel_rfl) (Xg.opx_pure ((Value.int IntKind.u64 (5 : Int))) rfl (fun _ => by kernel_rfl) ?_)
    refine Xg.ops_op (by kernel_rfl) (Xg.opx_pure ((Value.int IntKind.u64 (0 : Int))) rfl (fun _ => by kernel_rfl) ?_)
    refine Xg.ops_op (by kernel_rfl) (Xg.opx_pure ((Value.int IntKind.u64 (0 : Int))) rfl (fun _ => by kernel_rfl) ?_)
    refine Xg.ops_nil ?_
    refine Xg.at_seq ?_
    refine Xg.at_region ?_
    refine Xg.ops_op (by kernel_rfl) (Xg.opx_pure ((Value.int IntKind.u64 (1 : Int))) rfl (fun _ => by kernel_rfl) ?_)
    refine Xg.ops_op (by kernel_rfl) (Xg.opx_pure ((Value.int IntKind.u64 (5 : Int))) rfl (fun _ => by kernel_rfl) ?_)
    refine Xg.ops_op (by kernel_rfl) (Xg.opx_pure ((Value.int IntKind.u64 (5 : Int))) rfl (fun _ => by kernel_rfl) ?_)
    refine Xg.ops_op (by kernel_rfl) (Xg.opx_pure ((Value.int IntKind.u64 (5 : Int))) rfl (fun _ => by kernel_rfl) ?_)
    refine Xg.ops_nil ?_
    refine Xg.at_seq ?_
    refine Xg.at_region ?_
    refine Xg.ops_op (by kernel_rfl) (Xg.opx_pure ((Value.int IntKind.u64 (0 : Int))) rfl (fun _ => by kernel_rfl) ?_)
    refine Xg.ops_op (by kernel_rfl) (Xg.opx_pure ((Value.int IntKind.u64 (5 : Int))) rfl (fun _ => by kernel_rfl) ?_)
    refine Xg.ops_op (by kernel_rfl) (Xg.opx_pure ((Value.int IntKind.u64 (0 : Int))) rfl (fun _ => by kernel_rfl) ?_)
    refine Xg.ops_op (by kernel_rfl) (Xg.opx_pure ((Value.int IntKind.u64 (5 : Int))) rfl (fun _ => by kernel_rfl) ?_)
    refine Xg.ops_op (by kernel_rfl) (Xg.opx_pure ((Value.int IntKind.u64 (0 : Int))) rfl (fun _ => by kernel_rfl) ?_)
    refine Xg.ops_op (by kernel_rfl) (Xg.opx_pure ((Value.int IntKind.u64 (0 : Int))) rfl (fun _ => by kernel_rfl) ?_)
    refine Xg.ops_op (by kernel_rfl) (Xg.opx_pure ((Value.int IntKind.u64 (0 : Int))) rfl (fun _ => by kernel_rfl) ?_)
    refine Xg.ops_nil ?_
    refine Xg.at_seq ?_
    refine Xg.at_region ?_
    refine Xg.ops_op (by kernel_rfl) (Xg.opx_pure ((Value.int IntKind.u64 (0 : Int))) rfl (fun _ => by kernel_rfl) ?_)
    refine Xg.ops_op (by kernel_rfl) (Xg.opx_pure ((Value.int IntKind.u64 (0 : Int))) rfl (fun _ => by kernel_rfl) ?_)
    refine Xg.ops_op (by kernel_rfl) (Xg.opx_pure ((Value.int IntKind.u64 (0 : Int))) rfl (fun _ => by kernel_rfl) ?_)
    refine Xg.ops_nil ?_
    refine Xg.at_seq ?_
    refine Xg.at_region ?_
    refine Xg.ops_op (by kernel_rfl) (Xg.opx_pure ((Value.int IntKind.u64 (0 : Int))) rfl (fun _ => by kernel_rfl) ?_)
    refine Xg.ops_op (by kernel_rfl) (Xg.opx_pure ((Value.int IntKind.u64 (0 : Int))) rfl (fun _ => by kernel_rfl) ?_)
    refine Xg.ops_op (by kernel_rfl) (Xg.opx_pure ((Value.int IntKind.u64 (0 : Int))) rfl (fun _ => by kernel_rfl) ?_)
    refine Xg.ops_nil ?_
    refine Xg.at_seq ?_
    refine Xg.at_region ?_
    refine Xg.ops_op (by kernel_rfl) (Xg.opx_pure ((Value.int IntKind.u64 (0 : Int))) rfl (fun _ => by kernel_rfl) ?_)
    refine Xg.ops_op (by kernel_rfl) (Xg.opx_pure ((Value.int IntKind.u64 (1 : Int))) rfl (fun _ => by kernel_rfl) ?_)
    refine Xg.ops_op (by kernel_rfl) (Xg.opx_pure ((Value.int IntKind.u64 (0 : Int))) rfl (fun _ => by kernel_rfl) ?_)
    refine Xg.ops_op (by kernel_rfl) (Xg.opx_pure ((Value.int IntKind.u64 (0 : Int))) rfl (fun _ => by kernel_rfl) ?_)
    refine Xg.ops_op (by kernel_rfl) (Xg.opx_pure ((Value.int IntKind.u64 (0 : Int))) rfl (fun _ => by kernel_rfl) ?_)
    refine Xg.ops_op (by kernel_rfl) (Xg.opx_pure ((Value.int IntKind.u64 (0 : Int))) rfl (fun _ => by kernel_rfl) ?_)
    refine Xg.ops_nil ?_
    refine Xg.at_seq ?_
    refine Xg.at_region ?_
    refine Xg.ops_op (by kernel_rfl) (Xg.opx_pure ((Value.int IntKind.u64 (0 : Int))) rfl (fun _ => by kernel_rfl) ?_)
    refine Xg.ops_op (by kernel_rfl) (Xg.opx_pure ((Value.int IntKind.u64 (0 : Int))) rfl (fun _ => by kernel_rfl) ?_)
    refine Xg.ops_op (by kernel_rfl) (Xg.opx_pure ((Value.int IntKind.u64 (0 : Int))) rfl (fun _ => by kernel_rfl) ?_)
    refine Xg.ops_op (by kernel_rfl) (Xg.opx_pure ((Value.int IntKind.u64 (0 : Int))) rfl (fun _ => by kernel_rfl) ?_)
    refine Xg.ops_op (by kernel_rfl) (Xg.opx_pure ((Value.int IntKind.u64 (0 : Int))) rfl (fun _ => by kernel_rfl) ?_)
    refine Xg.ops_op (by kernel_rfl) (Xg.opx_pure ((Value.int IntKind.u64 (0 : Int))) rfl (fun _ => by kernel_rfl) ?_)
    refine Xg.ops_op (by kernel_rfl) (Xg.opx_pure ((Value.int IntKind.u64 (0 : Int))) rfl (fun _ => by kernel_rfl) ?_)
    refine Xg.ops_op (by kernel_rfl) (Xg.opx_pure ((Value.int IntKind.u64 (0 : Int))) rfl (fun _ => by kernel_rfl) ?_)
    refine Xg.ops_op (by kernel_rfl) (Xg.opx_pure ((Value.int IntKind.u64 (0 : Int))) rfl (fun _ => by kernel_rfl) ?_)
    refine Xg.ops_nil ?_
    refine Xg.at_seq ?_
    refine Xg.at_region ?_
    refine Xg.ops_op (by kernel_rfl) (Xg.opx_pure ((Value.int IntKind.u64 (1 : Int))) rfl (fun _ => by kernel_rfl) ?_)
    refine Xg.ops_op (by kernel_rfl) (Xg.opx_pure ((Value.int IntKind.u64 (5 : Int))) rfl (fun _ => by kernel_rfl) ?_)
    refine Xg.ops_op (by kernel_rfl) (Xg.opx_pure ((Value.int IntKind.u64 (5 : Int))) rfl (fun _ => by kernel_rfl) ?_)
    refine Xg.ops_op (by kernel_rfl) (Xg.opx_pure ((Value.int IntKind.u64 (5 : Int))) rfl (fun _ => by kernel_rfl) ?_)
    refine Xg.ops_nil ?_
    refine Xg.at_ret_ps (v := (Value.tuple #[Value.int IntKind.u64 (0 : Int), Value.int IntKind.u64 (5 : Int)])) [] [] Go.Proofs.Try.func47 (fun _ => by kernel_rfl) (by kernel_rfl) (by kernel_rfl) ?_
    exact ⟨by kernel_rfl, by kernel_rfl⟩)
theorem mul_5 : Does Try.prog 45 [.int .u64 1, .int .u64 5] [] (Ret (.tuple #[.int .u64 0, .int .u64 5]) []) := by
  (focus
    refine Xg.spec_of Go.Proofs.Try.func45 rfl Go.Proofs.Try.ntmps45 fun g F => ?_)
  (focus
    refine Xg.at_seq ?_
    refine Xg.at_region ?_
    refine Xg.ops_op (by kernel_rfl) (Xg.opx_pure ((Value.int IntKind.u64 (0 : Int))) rfl (fun _ => by kernel_rfl) ?_)
    refine Xg.ops_op (by kernel_rfl) (Xg.opx_pure ((Value.int IntKind.u64 (0 : Int))) rfl (fun _ => by kernel_rfl) ?_)
    refine Xg.ops_nil ?_
    refine Xg.at_seq ?_
    refine Xg.at_false (t := false) (by kernel_rfl) rfl ?_
    refine Xg.at_skip ?_
    refine Xg.at_seq ?_
    refine Xg.at_region ?_
    refine Xg.ops_op (by kernel_rfl) (Xg.opx_pure ((Value.int IntKind.u64 (1 : Int))) rfl (fun _ => by kernel_rfl) ?_)
    refine Xg.ops_op (by kernel_rfl) (Xg.opx_pure ((Value.int IntKind.u64 (5 : Int))) rfl (fun _ => by kernel_rfl) ?_)
    refine Xg.ops_op (by kernel_rfl) (Xg.opx_call1' [] [] (fun _ => by kernel_rfl) (@Go.Proofs.Ytijjficnhpokdaa.mul64_5 ) (by kernel_rfl) (by kernel_rfl) (by kernel_rfl) ?_)
    refine Xg.ops_op (by kernel_rfl) (Xg.opx_pure ((Value.tuple #[Value.int IntKind.u64 (0 : Int), Value.int IntKind.u64 (5 : Int)])) rfl (fun _ => by kernel_rfl) ?_)
    refine Xg.ops_op (by kernel_rfl) (Xg.opx_pure ((Value.int IntKind.u64 (0 : Int))) rfl (fun _ => by kernel_rfl) ?_)
    refine Xg.ops_op (by kernel_rfl) (Xg.opx_pure ((Value.int IntKind.u64 (5 : Int))) rfl (fun _ => by kernel_rfl) ?_)
    refine Xg.ops_op (by kernel_rfl) (Xg.opx_pure ((Value.int IntKind.u64 (0 : Int))) rfl (fun _ => by kernel_rfl) ?_)
    refine Xg.ops_op (by kernel_rfl) (Xg.opx_pure ((Value.int IntKind.u64 (5 : Int))) rfl (fun _ => by kernel_rfl) ?_)
    refine Xg.ops_nil ?_
    refine Xg.at_seq ?_
    refine Xg.at_region ?_
    refine Xg.ops_op (by kernel_rfl) (Xg.opx_pure ((Value.int IntKind.u64 (0 : Int))) rfl (fun _ => by kernel_rfl) ?_)
    refine Xg.ops_op (by kernel_rfl) (Xg.opx_pure ((Value.int IntKind.u64 (5 : Int))) rfl (fun _ => by kernel_rfl) ?_)
    refine Xg.ops_op (by kernel_rfl) (Xg.opx_pure ((Value.int IntKind.u64 (0 : Int))) rfl (fun _ => by kernel_rfl) ?_)
    refine Xg.ops_op (by kernel_rfl) (Xg.opx_pure ((Value.int IntKind.u64 (5 : Int))) rfl (fun _ => by kernel_rfl) ?_)
    refine Xg.ops_nil ?_
    refine Xg.at_ret_ps (v := (Value.tuple #[Value.int IntKind.u64 (0 : Int), Value.int IntKind.u64 (5 : Int)])) [] [] Go.Proofs.Try.func45 (fun _ => by kernel_rfl) (by kernel_rfl) (by kernel_rfl) ?_
    exact ⟨by kernel_rfl, by kernel_rfl⟩)
theorem repeat_5 (b : Nat) : Does Try.prog 39 [.slice (some ⟨b, 0, none⟩) 1 1, .int .i64 5] [row b 3 [.int .i64 (-1)]]
    (RetE (fun x : Option Addr × Nat => True) (fun x => .slice x.1 5 x.2) (fun x => [ints 3 .i64 x.1 x.2 [-1, -1, -1, -1, -1]])) := by
  (focus
    refine Xg.spec_of Go.Proofs.Try.func39 rfl Go.Proofs.Try.ntmps39 fun g F => ?_)
  (focus
    refine Xg.at_seq ?_
    refine Xg.at_region ?_
    refine Xg.ops_op (by kernel_rfl) (Xg.opx_pure ((Value.slice none (0 : Nat) (0 : Nat))) rfl (fun _ => by kernel_rfl) ?_)
    refine Xg.ops_nil ?_
    refine Xg.at_seq ?_
    refine Xg.at_seq ?_
    refine Xg.at_region ?_
    refine Xg.ops_op (by kernel_rfl) (Xg.opx_pure ((iv 5)) rfl (fun _ => by kernel_rfl) ?_)
    refine Xg.ops_op (by kernel_rfl) (Xg.opx_pure ((Value.bool false)) rfl (fun _ => by kernel_rfl) ?_)
    refine Xg.ops_nil ?_
    refine Xg.at_false (t := false) (by kernel_rfl) rfl ?_
    refine Xg.at_skip ?_
    refine Xg.at_seq ?_
    refine Xg.at_region ?_
    refine Xg.ops_op (by kernel_rfl) (Xg.opx_pure ((Value.slice (some (Addr.mk b (0 : Nat) none)) (1 : Nat) (1 : Nat))) rfl (fun _ => by kernel_rfl) ?_)
    refine Xg.ops_op (by kernel_rfl) (Xg.opx_pure ((iv 1)) rfl (fun _ => by kernel_rfl) ?_)
    refine Xg.ops_op (by kernel_rfl) (Xg.opx_pure (.int .u64 ((1 : Int))) rfl (fun _ => by kernel_rfl) ?_)
    refine Xg.ops_op (by kernel_rfl) (Xg.opx_pure ((iv 5)) rfl (fun _ => by kernel_rfl) ?_)
    refine Xg.ops_op (by kernel_rfl) (Xg.opx_pure (.int .u64 ((5 : Int))) rfl (fun _ => by kernel_rfl) ?_)
    refine Xg.ops_op (by kernel_rfl) (Xg.opx_call1' [] [row b (3 : TypeId) [iv (-1)]] (fun _ => by kernel_rfl) (@Go.Proofs.Ytijjficnhpokdaa.mul_5 ) (by kernel_rfl) (by kernel_rfl) (by kernel_rfl) ?_)
    refine Xg.ops_op (by kernel_rfl) (Xg.opx_pure ((Value.tuple #[Value.int IntKind.u64 (0 : Int), Value.int IntKind.u64 (5 : Int)])) rfl (fun _ => by kernel_rfl) ?_)
    refine Xg.ops_op (by kernel_rfl) (Xg.opx_pure ((Value.int IntKind.u64 (0 : Int))) rfl (fun _ => by kernel_rfl) ?_)
    refine Xg.ops_op (by kernel_rfl) (Xg.opx_pure ((Value.int IntKind.u64 (5 : Int))) rfl (fun _ => by kernel_rfl) ?_)
    refine Xg.ops_op (by kernel_rfl) (Xg.opx_pure ((Value.int IntKind.u64 (0 : Int))) rfl (fun _ => by kernel_rfl) ?_)
    refine Xg.ops_op (by kernel_rfl) (Xg.opx_pure ((Value.int IntKind.u64 (5 : Int))) rfl (fun _ => by kernel_rfl) ?_)
    refine Xg.ops_nil ?_
    refine Xg.at_seq ?_
    refine Xg.at_seq ?_
    refine Xg.at_region ?_
    refine Xg.ops_op (by kernel_rfl) (Xg.opx_pure ((Value.int IntKind.u64 (0 : Int))) rfl (fun _ => by kernel_rfl) ?_)
    refine Xg.ops_op (by kernel_rfl) (Xg.opx_pure ((Value.bool false)) rfl (fun _ => by kernel_rfl) ?_)
    refine Xg.ops_op (by kernel_rfl) (Xg.opx_pure ((Value.bool false)) rfl (fun _ => by kernel_rfl) ?_)
    refine Xg.ops_op (by kernel_rfl) (Xg.opx_pure ((Value.int IntKind.u64 (5 : Int))) rfl (fun _ => by kernel_rfl) ?_)
    refine Xg.ops_op (by kernel_rfl) (Xg.opx_pure ((Value.bool false)) rfl (fun _ => by kernel_rfl) ?_)
    refine Xg.ops_op (by kernel_rfl) (Xg.opx_pure ((Value.bool false)) rfl (fun _ => by kernel_rfl) ?_)
    refine Xg.ops_nil ?_
    refine Xg.at_false (t := false) (by kernel_rfl) rfl ?_
    refine Xg.at_skip ?_
    refine Xg.at_seq ?_
    refine Xg.at_region ?_
    refine Xg.ops_op (by kernel_rfl) (Xg.opx_pure ((Value.int IntKind.u64 (5 : Int))) rfl (fun _ => by kernel_rfl) ?_)
    refine Xg.ops_op (by kernel_rfl) (Xg.opx_pure (.int .i64 ((5 : Int))) rfl (fun _ => by kernel_rfl) ?_)
    refine Xg.ops_op (by kernel_rfl) (Xg.opx_make_ints (elem := 3) (kd := .i64) (by_ := 8) (k1 := .i64) (k2 := .i64) (n := ((5 : Int))) (c := ((5 : Int))) ((5 : Nat)) ((5 : Nat)) [(0 : Int), (0 : Int), (0 : Int), (0 : Int), (0 : Int)] (by kernel_rfl) (by kernel_rfl) (by kernel_rfl) (by kernel_rfl) rfl rfl (by omega) (by omega) (by first | rfl | (simp; done)) fun xa1 xh1 => ?_)
    have xl1 : ([(0 : Int), (0 : Int), (0 : Int), (0 : Int), (0 : Int)] : List Int).length = ((5 : Nat)) := by first | rfl | (simp; done)
    refine Xg.ops_op (by kernel_rfl) (Xg.opx_pure ((Value.slice xa1 (5 : Nat) (5 : Nat))) rfl (fun _ => by kernel_rfl) ?_)
    refine Xg.ops_nil ?_
    refine Xg.at_seq ?_
    refine Xg.at_region ?_
    refine Xg.ops_op (by kernel_rfl) (Xg.opx_pure ((Value.slice xa1 (5 : Nat) (5 : Nat))) rfl (fun _ => by kernel_rfl) ?_)
    refine Xg.ops_op (by kernel_rfl) (Xg.opx_pure ((Value.slice (some (Addr.mk b (0 : Nat) none)) (1 : Nat) (1 : Nat))) rfl (fun _ => by kernel_rfl) ?_))
  refine Xg.ops_op (by kernel_rfl) (Xg.opx_copy_in (elem := 3) (xs := [0, 0, 0, 0, 0]) (ys := [-1]) (yv := .slice (some ⟨b, 0, none⟩) 1 1) (cx := 5) 0 8 0 5 [-1, 0, 0, 0, 0] 1 rfl (by kernel_rfl) (by kernel_rfl) (by kernel_rfl) (fun b e => e) (by kernel_rfl) (fun w hS => by exact row_rd hS 1 rfl rfl) (by decide) (by decide) rfl rfl rfl ?_)
  (focus
    refine Xg.ops_op (by kernel_rfl) (Xg.opx_pure ((iv 1)) rfl (fun _ => by kernel_rfl) ?_)
    refine Xg.ops_nil ?_
    refine Xg.at_seq ?_
    refine Xg.at_block ?_
    refine Xg.at_loop ?_
    refine Xg.at_seq ?_
    refine Xg.at_seq ?_
    refine Xg.at_region ?_
    refine Xg.ops_op (by kernel_rfl) (Xg.opx_pure ((iv 1)) rfl (fun _ => by kernel_rfl) ?_)
    refine Xg.ops_op (by kernel_rfl) (Xg.opx_pure ((Value.slice xa1 (5 : Nat) (5 : Nat))) rfl (fun _ => by kernel_rfl) ?_)
    refine Xg.ops_op (by kernel_rfl) (Xg.opx_pure ((iv 5)) rfl (fun _ => by kernel_rfl) ?_)
    refine Xg.ops_op (by kernel_rfl) (Xg.opx_pure ((Value.bool true)) rfl (fun _ => by kernel_rfl) ?_)
    refine Xg.ops_nil ?_
    refine Xg.at_true (t := true) (by kernel_rfl) rfl ?_
    refine Xg.at_skip ?_
    refine Xg.at_block ?_
    refine Xg.at_draw [7] [] (by kernel_rfl) ?_
    refine Xg.any_pure ((iv 1)) 0 (by kernel_rfl) rfl (by kernel_rfl) (by kernel_rfl) (by kernel_rfl) (by kernel_rfl) rfl (fun _ => by kernel_rfl) ?_
    refine Xg.any_pure ((Value.slice xa1 (5 : Nat) (5 : Nat))) 1 (by kernel_rfl) rfl (by kernel_rfl) (by kernel_rfl) (by kernel_rfl) (by kernel_rfl) rfl (fun _ => by kernel_rfl) ?_
    refine Xg.any_pure ((iv 1)) 2 (by kernel_rfl) rfl (by kernel_rfl) (by kernel_rfl) (by kernel_rfl) (by kernel_rfl) rfl (fun _ => by kernel_rfl) ?_
    refine Xg.any_pure (.slice (Xg.subA xa1 ((5 : Nat)) ((1 : Nat)) 1) (((5 : Nat)) - ((1 : Nat))) (((5 : Nat)) - ((1 : Nat)))) 3 (by kernel_rfl) rfl (by kernel_rfl) (by kernel_rfl) (by kernel_rfl) (by kernel_rfl) rfl (Xg.run_sl_lo (elem := 3) (a := xa1) (c := ((5 : Nat))) (len := ((5 : Nat))) (k1 := .i64) (e1 := ((1 : Int))) 1 ((1 : Nat)) (by kernel_rfl) (by kernel_rfl) (by kernel_rfl) (by kernel_rfl) rfl (by omega)) ?_
    refine Xg.any_pure ((Value.slice xa1 (5 : Nat) (5 : Nat))) 4 (by kernel_rfl) rfl (by kernel_rfl) (by kernel_rfl) (by kernel_rfl) (by kernel_rfl) rfl (fun _ => by kernel_rfl) ?_
    refine Xg.any_pure ((iv 1)) 5 (by kernel_rfl) rfl (by kernel_rfl) (by kernel_rfl) (by kernel_rfl) (by kernel_rfl) rfl (fun _ => by kernel_rfl) ?_
    refine Xg.any_pure (.slice xa1 ((1 : Nat)) ((5 : Nat))) 6 (by kernel_rfl) rfl (by kernel_rfl) (by kernel_rfl) (by kernel_rfl) (by kernel_rfl) rfl (Xg.run_sl_hi (elem := 3) (a := xa1) (c := ((5 : Nat))) (len := ((5 : Nat))) (k2 := .i64) (e2 := ((1 : Int))) 1 ((1 : Nat)) (by kernel_rfl) (by kernel_rfl) (by kernel_rfl) (by kernel_rfl) rfl (by omega)) ?_)
  refine Xg.any_each [7] (by kernel_rfl) rfl ⟨?_, trivial⟩
  refine Xg.comes_act rfl (by kernel_rfl) (by kernel_rfl) (Xg.opx_copy_in (elem := 3) (xs := [-1, 0, 0, 0, 0]) (ys := [-1]) (yv := .slice xa1 1 5) (a := xa1) (c := 5) (ax := Xg.subA xa1 5 1 1) (cx := 4) 0 8 1 4 [-1, -1, 0, 0, 0] 1 rfl (by kernel_rfl) (by kernel_rfl) (by kernel_rfl) (fun b e => by rw [e]; exact sub_at (by decide)) (by kernel_rfl) (fun w hS => by exact reads_rd (reads_hi (E := 3) (n := 5) (c := 5) (a := xa1) (sz := 1) (vs := ([-1, 0, 0, 0, 0] : List Int).map (Value.int .i64)) 1 (by decide)) 0 rfl hS) (by decide) (by decide) rfl rfl rfl ?_)
  refine Xg.acts Xg.owes_nil ?_
  (focus
    refine Xg.any_pure ((iv 2)) 8 (by kernel_rfl) rfl (by kernel_rfl) (by kernel_rfl) (by kernel_rfl) (by kernel_rfl) rfl (fun _ => by kernel_rfl) ?_
    refine Xg.any_pure ((iv 2)) 9 (by kernel_rfl) rfl (by kernel_rfl) (by kernel_rfl) (by kernel_rfl) (by kernel_rfl) rfl (fun _ => by kernel_rfl) ?_
    refine Xg.any_nil (by kernel_rfl) ?_
    refine Xg.at_inBlock ?_
    refine Xg.at_inLoop ?_
    refine Xg.at_seq ?_
    refine Xg.at_seq ?_
    refine Xg.at_region ?_
    refine Xg.ops_op (by kernel_rfl) (Xg.opx_pure ((iv 2)) rfl (fun _ => by kernel_rfl) ?_)
    refine Xg.ops_op (by kernel_rfl) (Xg.opx_pure ((Value.slice xa1 (5 : Nat) (5 : Nat))) rfl (fun _ => by kernel_rfl) ?_)
    refine Xg.ops_op (by kernel_rfl) (Xg.opx_pure ((iv 5)) rfl (fun _ => by kernel_rfl) ?_)
    refine Xg.ops_op (by kernel_rfl) (Xg.opx_pure ((Value.bool true)) rfl (fun _ => by kernel_rfl) ?_)
    refine Xg.ops_nil ?_
    refine Xg.at_true (t := true) (by kernel_rfl) rfl ?_
    refine Xg.at_skip ?_
    refine Xg.at_block ?_
    refine Xg.at_draw [7] [] (by kernel_rfl) ?_
    refine Xg.any_pure ((iv 2)) 0 (by kernel_rfl) rfl (by kernel_rfl) (by kernel_rfl) (by kernel_rfl) (by kernel_rfl) rfl (fun _ => by kernel_rfl) ?_
    refine Xg.any_pure ((Value.slice xa1 (5 : Nat) (5 : Nat))) 1 (by kernel_rfl) rfl (by kernel_rfl) (by kernel_rfl) (by kernel_rfl) (by kernel_rfl) rfl (fun _ => by kernel_rfl) ?_
    refine Xg.any_pure ((iv 2)) 2 (by kernel_rfl) rfl (by kernel_rfl) (by kernel_rfl) (by kernel_rfl) (by kernel_rfl) rfl (fun _ => by kernel_rfl) ?_
    refine Xg.any_pure (.slice (Xg.subA xa1 ((5 : Nat)) ((2 : Nat)) 1) (((5 : Nat)) - ((2 : Nat))) (((5 : Nat)) - ((2 : Nat)))) 3 (by kernel_rfl) rfl (by kernel_rfl) (by kernel_rfl) (by kernel_rfl) (by kernel_rfl) rfl (Xg.run_sl_lo (elem := 3) (a := xa1) (c := ((5 : Nat))) (len := ((5 : Nat))) (k1 := .i64) (e1 := ((2 : Int))) 1 ((2 : Nat)) (by kernel_rfl) (by kernel_rfl) (by kernel_rfl) (by kernel_rfl) rfl (by omega)) ?_
    refine Xg.any_pure ((Value.slice xa1 (5 : Nat) (5 : Nat))) 4 (by kernel_rfl) rfl (by kernel_rfl) (by kernel_rfl) (by kernel_rfl) (by kernel_rfl) rfl (fun _ => by kernel_rfl) ?_
    refine Xg.any_pure ((iv 2)) 5 (by kernel_rfl) rfl (by kernel_rfl) (by kernel_rfl) (by kernel_rfl) (by kernel_rfl) rfl (fun _ => by kernel_rfl) ?_
    refine Xg.any_pure (.slice xa1 ((2 : Nat)) ((5 : Nat))) 6 (by kernel_rfl) rfl (by kernel_rfl) (by kernel_rfl) (by kernel_rfl) (by kernel_rfl) rfl (Xg.run_sl_hi (elem := 3) (a := xa1) (c := ((5 : Nat))) (len := ((5 : Nat))) (k2 := .i64) (e2 := ((2 : Int))) 1 ((2 : Nat)) (by kernel_rfl) (by kernel_rfl) (by kernel_rfl) (by kernel_rfl) rfl (by omega)) ?_)
  refine Xg.any_each [7] (by kernel_rfl) rfl ⟨?_, trivial⟩
  refine Xg.comes_act rfl (by kernel_rfl) (by kernel_rfl) (Xg.opx_copy_in (elem := 3) (xs := [-1, -1, 0, 0, 0]) (ys := [-1, -1]) (yv := .slice xa1 2 5) (a := xa1) (c := 5) (ax := Xg.subA xa1 5 2 1) (cx := 3) 0 8 2 3 [-1, -1, -1, -1, 0] 2 rfl (by kernel_rfl) (by kernel_rfl) (by kernel_rfl) (fun b e => by rw [e]; exact sub_at (by decide)) (by kernel_rfl) (fun w hS => by exact reads_rd (reads_hi (E := 3) (n := 5) (c := 5) (a := xa1) (sz := 1) (vs := ([-1, -1, 0, 0, 0] : List Int).map (Value.int .i64)) 2 (by decide)) 0 rfl hS) (by decide) (by decide) rfl rfl rfl ?_)
  refine Xg.acts Xg.owes_nil ?_
  (focus
    refine Xg.any_pure ((iv 4)) 8 (by kernel_rfl) rfl (by kernel_rfl) (by kernel_rfl) (by kernel_rfl) (by kernel_rfl) rfl (fun _ => by kernel_rfl) ?_
    refine Xg.any_pure ((iv 4)) 9 (by kernel_rfl) rfl (by kernel_rfl) (by kernel_rfl) (by kernel_rfl) (by kernel_rfl) rfl (fun _ => by kernel_rfl) ?_
    refine Xg.any_nil (by kernel_rfl) ?_
    refine Xg.at_inBlock ?_
    refine Xg.at_inLoop ?_
    refine Xg.at_seq ?_
    refine Xg.at_seq ?_
    refine Xg.at_region ?_
    refine Xg.ops_op (by kernel_rfl) (Xg.opx_pure ((iv 4)) rfl (fun _ => by kernel_rfl) ?_)
    refine Xg.ops_op (by kernel_rfl) (Xg.opx_pure ((Value.slice xa1 (5 : Nat) (5 : Nat))) rfl (fun _ => by kernel_rfl) ?_)
    refine Xg.ops_op (by kernel_rfl) (Xg.opx_pure ((iv 5)) rfl (fun _ => by kernel_rfl) ?_)
    refine Xg.ops_op (by kernel_rfl) (Xg.opx_pure ((Value.bool true)) rfl (fun _ => by kernel_rfl) ?_)
    refine Xg.ops_nil ?_
    refine Xg.at_true (t := true) (by kernel_rfl) rfl ?_
    refine Xg.at_skip ?_
    refine Xg.at_block ?_
    refine Xg.at_draw [7] [] (by kernel_rfl) ?_
    refine Xg.any_pure ((iv 4)) 0 (by kernel_rfl) rfl (by kernel_rfl) (by kernel_rfl) (by kernel_rfl) (by kernel_rfl) rfl (fun _ => by kernel_rfl) ?_
    refine Xg.any_pure ((Value.slice xa1 (5 : Nat) (5 : Nat))) 1 (by kernel_rfl) rfl (by kernel_rfl) (by kernel_rfl) (by kernel_rfl) (by kernel_rfl) rfl (fun _ => by kernel_rfl) ?_
    refine Xg.any_pure ((iv 4)) 2 (by kernel_rfl) rfl (by kernel_rfl) (by kernel_rfl) (by kernel_rfl) (by kernel_rfl) rfl (fun _ => by kernel_rfl) ?_
    refine Xg.any_pure (.slice (Xg.subA xa1 ((5 : Nat)) ((4 : Nat)) 1) (((5 : Nat)) - ((4 : Nat))) (((5 : Nat)) - ((4 : Nat)))) 3 (by kernel_rfl) rfl (by kernel_rfl) (by kernel_rfl) (by kernel_rfl) (by kernel_rfl) rfl (Xg.run_sl_lo (elem := 3) (a := xa1) (c := ((5 : Nat))) (len := ((5 : Nat))) (k1 := .i64) (e1 := ((4 : Int))) 1 ((4 : Nat)) (by kernel_rfl) (by kernel_rfl) (by kernel_rfl) (by kernel_rfl) rfl (by omega)) ?_
    refine Xg.any_pure ((Value.slice xa1 (5 : Nat) (5 : Nat))) 4 (by kernel_rfl) rfl (by kernel_rfl) (by kernel_rfl) (by kernel_rfl) (by kernel_rfl) rfl (fun _ => by kernel_rfl) ?_
    refine Xg.any_pure ((iv 4)) 5 (by kernel_rfl) rfl (by kernel_rfl) (by kernel_rfl) (by kernel_rfl) (by kernel_rfl) rfl (fun _ => by kernel_rfl) ?_
    refine Xg.any_pure (.slice xa1 ((4 : Nat)) ((5 : Nat))) 6 (by kernel_rfl) rfl (by kernel_rfl) (by kernel_rfl) (by kernel_rfl) (by kernel_rfl) rfl (Xg.run_sl_hi (elem := 3) (a := xa1) (c := ((5 : Nat))) (len := ((5 : Nat))) (k2 := .i64) (e2 := ((4 : Int))) 1 ((4 : Nat)) (by kernel_rfl) (by kernel_rfl) (by kernel_rfl) (by kernel_rfl) rfl (by omega)) ?_)
  refine Xg.any_each [7] (by kernel_rfl) rfl ⟨?_, trivial⟩
  refine Xg.comes_act rfl (by kernel_rfl) (by kernel_rfl) (Xg.opx_copy_in (elem := 3) (xs := [-1, -1, -1, -1, 0]) (ys := [-1, -1, -1, -1]) (yv := .slice xa1 4 5) (a := xa1) (c := 5) (ax := Xg.subA xa1 5 4 1) (cx := 1) 0 8 4 1 [-1, -1, -1, -1, -1] 1 rfl (by kernel_rfl) (by kernel_rfl) (by kernel_rfl) (fun b e => by rw [e]; exact sub_at (by decide)) (by kernel_rfl) (fun w hS => by exact reads_rd (reads_hi (E := 3) (n := 5) (c := 5) (a := xa1) (sz := 1) (vs := ([-1, -1, -1, -1, 0] : List Int).map (Value.int .i64)) 4 (by decide)) 0 rfl hS) (by decide) (by decide) rfl rfl rfl ?_)
  refine Xg.acts Xg.owes_nil ?_
  (focus
    refine Xg.any_pure ((iv 5)) 8 (by kernel_rfl) rfl (by kernel_rfl) (by kernel_rfl) (by kernel_rfl) (by kernel_rfl) rfl (fun _ => by kernel_rfl) ?_
    refine Xg.any_pure ((iv 5)) 9 (by kernel_rfl) rfl (by kernel_rfl) (by kernel_rfl) (by kernel_rfl) (by kernel_rfl) rfl (fun _ => by kernel_rfl) ?_
    refine Xg.any_nil (by kernel_rfl) ?_
    refine Xg.at_inBlock ?_
    refine Xg.at_inLoop ?_
    refine Xg.at_seq ?_
    refine Xg.at_seq ?_
    refine Xg.at_region ?_
    refine Xg.ops_op (by kernel_rfl) (Xg.opx_pure ((iv 5)) rfl (fun _ => by kernel_rfl) ?_)
    refine Xg.ops_op (by kernel_rfl) (Xg.opx_pure ((Value.slice xa1 (5 : Nat) (5 : Nat))) rfl (fun _ => by kernel_rfl) ?_)
    refine Xg.ops_op (by kernel_rfl) (Xg.opx_pure ((iv 5)) rfl (fun _ => by kernel_rfl) ?_)
    refine Xg.ops_op (by kernel_rfl) (Xg.opx_pure ((Value.bool false)) rfl (fun _ => by kernel_rfl) ?_)
    refine Xg.ops_nil ?_
    refine Xg.at_false (t := false) (by kernel_rfl) rfl ?_
    refine Xg.at_exit rfl ?_
    refine Xg.at_seq ?_
    refine Xg.at_region ?_
    refine Xg.ops_op (by kernel_rfl) (Xg.opx_pure ((Value.slice xa1 (5 : Nat) (5 : Nat))) rfl (fun _ => by kernel_rfl) ?_)
    refine Xg.ops_op (by kernel_rfl) (Xg.opx_pure ((Value.slice xa1 (5 : Nat) (5 : Nat))) rfl (fun _ => by kernel_rfl) ?_)
    refine Xg.ops_nil ?_
    refine Xg.at_ret_ps (v := (Value.slice xa1 (5 : Nat) (5 : Nat))) [0] [ints (3 : TypeId) IntKind.i64 xa1 (5 : Nat) [(-1 : Int), (-1 : Int), (-1 : Int), (-1 : Int), (-1 : Int)]] Go.Proofs.Try.func39 (fun _ => by kernel_rfl) (by kernel_rfl) (by kernel_rfl) ?_
    refine ⟨((xa1, (5 : Nat))), trivial, by kernel_rfl, by kernel_rfl⟩)

theorem mul64_6 : Does Try.prog 47 [.int .u64 1, .int .u64 6] [] (Ret (.tuple #[.int .u64 0, .int .u64 6]) []) := by
  (focus
    refine Xg.spec_of Go.Proofs.Try.func47 rfl Go.Proofs.Try.ntmps47 fun g F => ?_)
  (focus
    refine Xg.at_seq ?_
    refine Xg.at_region ?_
    refine Xg.ops_op (by kernel_rfl) (Xg.opx_pure ((Value.int IntKind.u64 (0 : Int))) rfl (fun _ => by kernel_rfl) ?_)
    refine Xg.ops_op (by kernel_rfl) (Xg.opx_pure ((Value.int IntKind.u64 (0 : Int))) rfl (fun _ => by kernel_rfl) ?_)
    refine Xg.ops_nil ?_
    refine Xg.at_seq ?_
    refine Xg.at_region ?_
    refine Xg.ops_op (by kernel_rfl) (Xg.opx_pure ((Value.int IntKind.u64 (1 : Int))) rfl (fun _ => by kernel_rfl) ?_)
    refine Xg.ops_op (by kernel_rfl) (Xg.opx_pure ((Value.int IntKind.u64 (1 : Int))) rfl (fun _ => by kernel_rfl) ?_)
    refine Xg.ops_op (by kernel_rfl) (Xg.opx_pure ((Value.int IntKind.u64 (1 : Int))) rfl (fun _ => by kernel_rfl) ?_)
    refine Xg.ops_nil ?_
    refine Xg.at_seq ?_
    refine Xg.at_region ?_
    refine Xg.ops_op (by kernel_rfl) (Xg.opx_pure ((Value.int IntKind.u64 (1 : Int))) rfl (fun _ => by kernel_rfl) ?_)
    refine Xg.ops_op (by kernel_rfl) (Xg.opx_pure ((Value.int IntKind.u64 (0 : Int))) rfl (fun _ => by kernel_rfl) ?_)
    refine Xg.ops_op (by kernel_rfl) (Xg.opx_pure ((Value.int IntKind.u64 (0 : Int))) rfl (fun _ => by kernel_rfl) ?_)
    refine Xg.ops_nil ?_
    refine Xg.at_seq ?_
    refine Xg.at_region ?_
    refine Xg.ops_op (by kernel_rfl) (Xg.opx_pure ((Value.int IntKind.u64 (6 : Int))) rfl (fun _ => by kernel_rfl) ?_)
    refine Xg.ops_op (by kernel_rfl) (Xg.opx_pure ((Value.int IntKind.u64 (6 : Int))) rfl (fun _ => by kernel_rfl) ?_)
    refine Xg.ops_op (by kernel_rfl) (Xg.opx_pure ((Value.int IntKind.u64 (6 : Int))) rfl (fun _ => by kernel_rfl) ?_)
    refine Xg.ops_nil ?_
    refine Xg.at_seq ?_
    refine Xg.at_region ?_
    refine Xg.ops_op (by kernel_rfl) (Xg.opx_pure ((Value.int IntKind.u64 (6 : Int))) rfl (fun _ => by kernel_rfl) ?_)
    refine Xg.ops_op (by kernel_rfl) (Xg.opx_pure ((Value.int IntKind.u64 (0 : Int))) rfl (fun _ => by kernel_rfl) ?_)
    refine Xg.ops_op (by kernel_rfl) (Xg.opx_pure ((Value.int IntKind.u64 (0 : Int))) rfl (fun _ => by kernel_rfl) ?_)
    refine Xg.ops_nil ?_
    refine Xg.at_seq ?_
    refine Xg.at_region ?_
    refine Xg.ops_op (by kernel_rfl) (Xg.opx_pure ((Value.int IntKind.u64 (1 : Int))) rfl (fun _ => by kernel_rfl) ?_)
    refine Xg.ops_op (by kernel_rfl) (Xg.opx_pure ((Value.int IntKind.u64 (6 : Int))) rfl (fun _ => by kernel_rfl) ?_)
    refine Xg.ops_op (by kernel_rfl) (Xg.opx_pure ((Value.int IntKind.u64 (6 : Int))) rfl (fun _ => by kernel_rfl) ?_)
    refine Xg.ops_op (by kernel_rfl) (Xg.opx_pure ((Value.int IntKind.u64 (6 : Int))) rfl (fun _ => by kernel_rfl) ?_)
    refine Xg.ops_nil ?_
    refine Xg.at_seq ?_
    refine Xg.at_region ?_
    refine Xg.ops_op (by kernel_rfl) (Xg.opx_pure ((Value.int IntKind.u64 (0 : Int))) rfl (fun _ => by kernel_rfl) ?_)
    refine Xg.ops_op (by kernel_rfl) (Xg.opx_pure ((Value.int IntKind.u64 (6 : Int))) rfl (fun _ => by kernel_rfl) ?_)
    refine Xg.ops_op (by kernel_rfl) (Xg.opx_pure ((Value.int IntKind.u64 (0 : Int))) rfl (fun _ => by kernel_rfl) ?_)
    refine Xg.ops_op (by kernel_rfl) (Xg.opx_pure ((Value.int IntKind.u64 (6 : Int))) rfl (fun _ => by kernel_rfl) ?_)
    refine Xg.ops_op (by kernel_rfl) (Xg.opx_pure ((Value.int IntKind.u64 (0 : Int))) rfl (fun _ => by kernel_rfl) ?_)
    refine Xg.ops_op (by kernel_rfl) (Xg.opx_pure ((Value.int IntKind.u64 (0 : Int))) rfl (fun _ => by kernel_rfl) ?_)
    refine Xg.ops_op (by kernel_rfl) (Xg.opx_pure ((Value.int IntKind.u64 (0 : Int))) rfl (fun _ => by kernel_rfl) ?_)
    refine Xg.ops_nil ?_
    refine Xg.at_seq ?_
    refine Xg.at_region ?_
    refine Xg.ops_op (by kernel_rfl) (Xg.opx_pure ((Value.int IntKind.u64 (0 : Int))) rfl (fun _ => by kernel_rfl) ?_)
    refine Xg.ops_op (by kernel_rfl) (Xg.opx_pure ((Value.int IntKind.u64 (0 : Int))) rfl (fun _ => by kernel_rfl) ?_)
    refine Xg.ops_op (by kernel_rfl) (Xg.opx_pure ((Value.int IntKind.u64 (0 : Int))) rfl (fun _ => by kernel_rfl) ?_)
    refine Xg.ops_nil ?_
    refine Xg.at_seq ?_
    refine Xg.at_region ?_
    refine Xg.ops_op (by kernel_rfl) (Xg.opx_pure ((Value.int IntKind.u64 (0 : Int))) rfl (fun _ => by kernel_rfl) ?_)
    refine Xg.ops_op (by kernel_rfl) (Xg.opx_pure ((Value.int IntKind.u64 (0 : Int))) rfl (fun _ => by kernel_rfl) ?_)
    refine Xg.ops_op (by kernel_rfl) (Xg.opx_pure ((Value.int IntKind.u64 (0 : Int))) rfl (fun _ => by kernel_rfl) ?_)
    refine Xg.ops_nil ?_
    refine Xg.at_seq ?_
    refine Xg.at_region ?_
    refine Xg.ops_op (by kernel_rfl) (Xg.opx_pure ((Value.int IntKind.u64 (0 : Int))) rfl (fun _ => by kernel_rfl) ?_)
    refine Xg.ops_op (by kernel_rfl) (Xg.opx_pure ((Value.int IntKind.u64 (1 : Int))) rfl (fun _ => by kernel_rfl) ?_)
    refine Xg.ops_op (by kernel_rfl) (Xg.opx_pure ((Value.int IntKind.u64 (0 : Int))) rfl (fun _ => by kernel_rfl) ?_)
    refine Xg.ops_op (by kernel_rfl) (Xg.opx_pure ((Value.int IntKind.u64 (0 : Int))) rfl (fun _ => by kernel_rfl) ?_)
    refine Xg.ops_op (by kernel_rfl) (Xg.opx_pure ((Value.int IntKind.u64 (0 : Int))) rfl (fun _ => by kernel_rfl) ?_)
    refine Xg.ops_op (by kernel_rfl) (Xg.opx_pure ((Value.int IntKind.u64 (0 : Int))) rfl (fun _ => by kernel_rfl) ?_)
    refine Xg.ops_nil ?_
    refine Xg.at_seq ?_
    refine Xg.at_region ?_
    refine Xg.ops_op (by kernel_rfl) (Xg.opx_pure ((Value.int IntKind.u64 (0 : Int))) rfl (fun _ => by kernel_rfl) ?_)
    refine Xg.ops_op (by kernel_rfl) (Xg.opx_pure ((Value.int IntKind.u64 (0 : Int))) rfl (fun _ => by kernel_rfl) ?_)
    refine Xg.ops_op (by kernel_rfl) (Xg.opx_pure ((Value.int IntKind.u64 (0 : Int))) rfl (fun _ => by kernel_rfl) ?_)
    refine Xg.ops_op (by kernel_rfl) (Xg.opx_pure ((Value.int IntKind.u64 (0 : Int))) rfl (fun _ => by kernel_rfl) ?_)
    refine Xg.ops_op (by kernel_rfl) (Xg.opx_pure ((Value.int IntKind.u64 (0 : Int))) rfl (fun _ => by kernel_rfl) ?_)
    refine Xg.ops_op (by kernel_rfl) (Xg.opx_pure ((Value.int IntKind.u64 (0 : Int))) rfl (fun _ => by kernel_rfl) ?_)
    refine Xg.ops_op (by kernel_rfl) (Xg.opx_pure ((Value.int IntKind.u64 (0 : Int))) rfl (fun _ => by kernel_rfl) ?_)
    refine Xg.ops_op (by kernel_rfl) (Xg.opx_pure ((Value.int IntKind.u64 (0 : Int))) rfl (fun _ => by kernel_rfl) ?_)
    refine Xg.ops_op (by kernel_rfl) (Xg.opx_pure ((Value.int IntKind.u64 (0 : Int))) rfl (fun _ => by kernel_rfl) ?_)
    refine Xg.ops_nil ?_
    refine Xg.at_seq ?_
    refine Xg.at_region ?_
    refine Xg.ops_op (by kernel_rfl) (Xg.opx_pure ((Value.int IntKind.u64 (1 : Int))) rfl (fun _ => by kernel_rfl) ?_)
    refine Xg.ops_op (by kernel_rfl) (Xg.opx_pure ((Value.int IntKind.u64 (6 : Int))) rfl (fun _ => by kernel_rfl) ?_)
    refine Xg.ops_op (by kernel_rfl) (Xg.opx_pure ((Value.int IntKind.u64 (6 : Int))) rfl (fun _ => by kernel_rfl) ?_)
    refine Xg.ops_op (by kernel_rfl) (Xg.opx_pure ((Value.int IntKind.u64 (6 : Int))) rfl (fun _ => by kernel_rfl) ?_)
    refine Xg.ops_nil ?_
    refine Xg.at_ret_ps (v := (Value.tuple #[Value.int IntKind.u64 (0 : Int), Value.int IntKind.u64 (6 : Int)])) [] [] Go.Proofs.Try.func47 (fun _ => by kernel_rfl) (by kernel_rfl) (by kernel_rfl) ?_
    exact ⟨by kernel_rfl, by kernel_rfl⟩)
theorem mul_6 : Does Try.prog 45 [.int .u64 1, .int .u64 6] [] (Ret (.tuple #[.int .u64 0, .int .u64 6]) []) := by
  (focus
    refine Xg.spec_of Go.Proofs.Try.func45 rfl Go.Proofs.Try.ntmps45 fun g F => ?_)
  (focus
    refine Xg.at_seq ?_
    refine Xg.at_region ?_
    refine Xg.ops_op (by kernel_rfl) (Xg.opx_pure ((Value.int IntKind.u64 (0 : Int))) rfl (fun _ => by kernel_rfl) ?_)
    refine Xg.ops_op (by kernel_rfl) (Xg.opx_pure ((Value.int IntKind.u64 (0 : Int))) rfl (fun _ => by kernel_rfl) ?_)
    refine Xg.ops_nil ?_
    refine Xg.at_seq ?_
    refine Xg.at_false (t := false) (by kernel_rfl) rfl ?_
    refine Xg.at_skip ?_
    refine Xg.at_seq ?_
    refine Xg.at_region ?_
    refine Xg.ops_op (by kernel_rfl) (Xg.opx_pure ((Value.int IntKind.u64 (1 : Int))) rfl (fun _ => by kernel_rfl) ?_)
    refine Xg.ops_op (by kernel_rfl) (Xg.opx_pure ((Value.int IntKind.u64 (6 : Int))) rfl (fun _ => by kernel_rfl) ?_)
    refine Xg.ops_op (by kernel_rfl) (Xg.opx_call1' [] [] (fun _ => by kernel_rfl) (@Go.Proofs.Ytijjficnhpokdaa.mul64_6 ) (by kernel_rfl) (by kernel_rfl) (by kernel_rfl) ?_)
    refine Xg.ops_op (by kernel_rfl) (Xg.opx_pure ((Value.tuple #[Value.int IntKind.u64 (0 : Int), Value.int IntKind.u64 (6 : Int)])) rfl (fun _ => by kernel_rfl) ?_)
    refine Xg.ops_op (by kernel_rfl) (Xg.opx_pure ((Value.int IntKind.u64 (0 : Int))) rfl (fun _ => by kernel_rfl) ?_)
    refine Xg.ops_op (by kernel_rfl) (Xg.opx_pure ((Value.int IntKind.u64 (6 : Int))) rfl (fun _ => by kernel_rfl) ?_)
    refine Xg.ops_op (by kernel_rfl) (Xg.opx_pure ((Value.int IntKind.u64 (0 : Int))) rfl (fun _ => by kernel_rfl) ?_)
    refine Xg.ops_op (by kernel_rfl) (Xg.opx_pure ((Value.int IntKind.u64 (6 : Int))) rfl (fun _ => by kernel_rfl) ?_)
    refine Xg.ops_nil ?_
    refine Xg.at_seq ?_
    refine Xg.at_region ?_
    refine Xg.ops_op (by kernel_rfl) (Xg.opx_pure ((Value.int IntKind.u64 (0 : Int))) rfl (fun _ => by kernel_rfl) ?_)
    refine Xg.ops_op (by kernel_rfl) (Xg.opx_pure ((Value.int IntKind.u64 (6 : Int))) rfl (fun _ => by kernel_rfl) ?_)
    refine Xg.ops_op (by kernel_rfl) (Xg.opx_pure ((Value.int IntKind.u64 (0 : Int))) rfl (fun _ => by kernel_rfl) ?_)
    refine Xg.ops_op (by kernel_rfl) (Xg.opx_pure ((Value.int IntKind.u64 (6 : Int))) rfl (fun _ => by kernel_rfl) ?_)
    refine Xg.ops_nil ?_
    refine Xg.at_ret_ps (v := (Value.tuple #[Value.int IntKind.u64 (0 : Int), Value.int IntKind.u64 (6 : Int)])) [] [] Go.Proofs.Try.func45 (fun _ => by kernel_rfl) (by kernel_rfl) (by kernel_rfl) ?_
    exact ⟨by kernel_rfl, by kernel_rfl⟩)
theorem repeat_6 (b : Nat) : Does Try.prog 39 [.slice (some ⟨b, 0, none⟩) 1 1, .int .i64 6] [row b 3 [.int .i64 (-1)]]
    (RetE (fun x : Option Addr × Nat => True) (fun x => .slice x.1 6 x.2) (fun x => [ints 3 .i64 x.1 x.2 [-1, -1, -1, -1, -1, -1]])) := by
  (focus
    refine Xg.spec_of Go.Proofs.Try.func39 rfl Go.Proofs.Try.ntmps39 fun g F => ?_)
  (focus
    refine Xg.at_seq ?_
    refine Xg.at_region ?_
    refine Xg.ops_op (by kernel_rfl) (Xg.opx_pure ((Value.slice none (0 : Nat) (0 : Nat))) rfl (fun _ => by kernel_rfl) ?_)
    refine Xg.ops_nil ?_
    refine Xg.at_seq ?_
    refine Xg.at_seq ?_
    refine Xg.at_region ?_
    refine Xg.ops_op (by kernel_rfl) (Xg.opx_pure ((iv 6)) rfl (fun _ => by kernel_rfl) ?_)
    refine Xg.ops_op (by kernel_rfl) (Xg.opx_pure ((Value.bool false)) rfl (fun _ => by kernel_rfl) ?_)
    refine Xg.ops_nil ?_
    refine Xg.at_false (t := false) (by kernel_rfl) rfl ?_
    refine Xg.at_skip ?_
    refine Xg.at_seq ?_
    refine Xg.at_region ?_
    refine Xg.ops_op (by kernel_rfl) (Xg.opx_pure ((Value.slice (some (Addr.mk b (0 : Nat) none)) (1 : Nat) (1 : Nat))) rfl (fun _ => by kernel_rfl) ?_)
    refine Xg.ops_op (by kernel_rfl) (Xg.opx_pure ((iv 1)) rfl (fun _ => by kernel_rfl) ?_)
    refine Xg.ops_op (by kernel_rfl) (Xg.opx_pure (.int .u64 ((1 : Int))) rfl (fun _ => by kernel_rfl) ?_)
    refine Xg.ops_op (by kernel_rfl) (Xg.opx_pure ((iv 6)) rfl (fun _ => by kernel_rfl) ?_)
    refine Xg.ops_op (by kernel_rfl) (Xg.opx_pure (.int .u64 ((6 : Int))) rfl (fun _ => by kernel_rfl) ?_)
    refine Xg.ops_op (by kernel_rfl) (Xg.opx_call1' [] [row b (3 : TypeId) [iv (-1)]] (fun _ => by kernel_rfl) (@Go.Proofs.Ytijjficnhpokdaa.mul_6 ) (by kernel_rfl) (by kernel_rfl) (by kernel_rfl) ?_)
    refine Xg.ops_op (by kernel_rfl) (Xg.opx_pure ((Value.tuple #[Value.int IntKind.u64 (0 : Int), Value.int IntKind.u64 (6 : Int)])) rfl (fun _ => by kernel_rfl) ?_)
    refine Xg.ops_op (by kernel_rfl) (Xg.opx_pure ((Value.int IntKind.u64 (0 : Int))) rfl (fun _ => by kernel_rfl) ?_)
    refine Xg.ops_op (by kernel_rfl) (Xg.opx_pure ((Value.int IntKind.u64 (6 : Int))) rfl (fun _ => by kernel_rfl) ?_)
    refine Xg.ops_op (by kernel_rfl) (Xg.opx_pure ((Value.int IntKind.u64 (0 : Int))) rfl (fun _ => by kernel_rfl) ?_)
    refine Xg.ops_op (by kernel_rfl) (Xg.opx_pure ((Value.int IntKind.u64 (6 : Int))) rfl (fun _ => by kernel_rfl) ?_)
    refine Xg.ops_nil ?_
    refine Xg.at_seq ?_
    refine Xg.at_seq ?_
    refine Xg.at_region ?_
    refine Xg.ops_op (by kernel_rfl) (Xg.opx_pure ((Value.int IntKind.u64 (0 : Int))) rfl (fun _ => by kernel_rfl) ?_)
    refine Xg.ops_op (by kernel_rfl) (Xg.opx_pure ((Value.bool false)) rfl (fun _ => by kernel_rfl) ?_)
    refine Xg.ops_op (by kernel_rfl) (Xg.opx_pure ((Value.bool false)) rfl (fun _ => by kernel_rfl) ?_)
    refine Xg.ops_op (by kernel_rfl) (Xg.opx_pure ((Value.int IntKind.u64 (6 : Int))) rfl (fun _ => by kernel_rfl) ?_)
    refine Xg.ops_op (by kernel_rfl) (Xg.opx_pure ((Value.bool false)) rfl (fun _ => by kernel_rfl) ?_)
    refine Xg.ops_op (by kernel_rfl) (Xg.opx_pure ((Value.bool false)) rfl (fun _ => by kernel_rfl) ?_)
    refine Xg.ops_nil ?_
    refine Xg.at_false (t := false) (by kernel_rfl) rfl ?_
    refine Xg.at_skip ?_
    refine Xg.at_seq ?_
    refine Xg.at_region ?_
    refine Xg.ops_op (by kernel_rfl) (Xg.opx_pure ((Value.int IntKind.u64 (6 : Int))) rfl (fun _ => by kernel_rfl) ?_)
    refine Xg.ops_op (by kernel_rfl) (Xg.opx_pure (.int .i64 ((6 : Int))) rfl (fun _ => by kernel_rfl) ?_)
    refine Xg.ops_op (by kernel_rfl) (Xg.opx_make_ints (elem := 3) (kd := .i64) (by_ := 8) (k1 := .i64) (k2 := .i64) (n := ((6 : Int))) (c := ((6 : Int))) ((6 : Nat)) ((6 : Nat)) [(0 : Int), (0 : Int), (0 : Int), (0 : Int), (0 : Int), (0 : Int)] (by kernel_rfl) (by kernel_rfl) (by kernel_rfl) (by kernel_rfl) rfl rfl (by omega) (by omega) (by first | rfl | (simp; done)) fun xa1 xh1 => ?_)
    have xl1 : ([(0 : Int), (0 : Int), (0 : Int), (0 : Int), (0 : Int), (0 : Int)] : List Int).length = ((6 : Nat)) := by first | rfl | (simp; done)
    refine Xg.ops_op (by kernel_rfl) (Xg.opx_pure ((Value.slice xa1 (6 : Nat) (6 : Nat))) rfl (fun _ => by kernel_rfl) ?_)
    refine Xg.ops_nil ?_
    refine Xg.at_seq ?_
    refine Xg.at_region ?_
    refine Xg.ops_op (by kernel_rfl) (Xg.opx_pure ((Value.slice xa1 (6 : Nat) (6 : Nat))) rfl (fun _ => by kernel_rfl) ?_)
    refine Xg.ops_op (by kernel_rfl) (Xg.opx_pure ((Value.slice (some (Addr.mk b (0 : Nat) none)) (1 : Nat) (1 : Nat))) rfl (fun _ => by kernel_rfl) ?_))
  refine Xg.ops_op (by kernel_rfl) (Xg.opx_copy_in (elem := 3) (xs := [0, 0, 0, 0, 0, 0]) (ys := [-1]) (yv := .slice (some ⟨b, 0, none⟩) 1 1) (cx := 6) 0 8 0 6 [-1, 0, 0, 0, 0, 0] 1 rfl (by kernel_rfl) (by kernel_rfl) (by kernel_rfl) (fun b e => e) (by kernel_rfl) (fun w hS => by exact row_rd hS 1 rfl rfl) (by decide) (by decide) rfl rfl rfl ?_)
  (focus
    refine Xg.ops_op (by kernel_rfl) (Xg.opx_pure ((iv 1)) rfl (fun _ => by kernel_rfl) ?_)
    refine Xg.ops_nil ?_
    refine Xg.at_seq ?_
    refine Xg.at_block ?_
    refine Xg.at_loop ?_
    refine Xg.at_seq ?_
    refine Xg.at_seq ?_
    refine Xg.at_region ?_
    refine Xg.ops_op (by kernel_rfl) (Xg.opx_pure ((iv 1)) rfl (fun _ => by kernel_rfl) ?_)
    refine Xg.ops_op (by kernel_rfl) (Xg.opx_pure ((Value.slice xa1 (6 : Nat) (6 : Nat))) rfl (fun _ => by kernel_rfl) ?_)
    refine Xg.ops_op (by kernel_rfl) (Xg.opx_pure ((iv 6)) rfl (fun _ => by kernel_rfl) ?_)
    refine Xg.ops_op (by kernel_rfl) (Xg.opx_pure ((Value.bool true)) rfl (fun _ => by kernel_rfl) ?_)
    refine Xg.ops_nil ?_
    refine Xg.at_true (t := true) (by kernel_rfl) rfl ?_
    refine Xg.at_skip ?_
    refine Xg.at_block ?_
    refine Xg.at_draw [7] [] (by kernel_rfl) ?_
    refine Xg.any_pure ((iv 1)) 0 (by kernel_rfl) rfl (by kernel_rfl) (by kernel_rfl) (by kernel_rfl) (by kernel_rfl) rfl (fun _ => by kernel_rfl) ?_
    refine Xg.any_pure ((Value.slice xa1 (6 : Nat) (6 : Nat))) 1 (by kernel_rfl) rfl (by kernel_rfl) (by kernel_rfl) (by kernel_rfl) (by kernel_rfl) rfl (fun _ => by kernel_rfl) ?_
    refine Xg.any_pure ((iv 1)) 2 (by kernel_rfl) rfl (by kernel_rfl) (by kernel_rfl) (by kernel_rfl) (by kernel_rfl) rfl (fun _ => by kernel_rfl) ?_
    refine Xg.any_pure (.slice (Xg.subA xa1 ((6 : Nat)) ((1 : Nat)) 1) (((6 : Nat)) - ((1 : Nat))) (((6 : Nat)) - ((1 : Nat)))) 3 (by kernel_rfl) rfl (by kernel_rfl) (by kernel_rfl) (by kernel_rfl) (by kernel_rfl) rfl (Xg.run_sl_lo (elem := 3) (a := xa1) (c := ((6 : Nat))) (len := ((6 : Nat))) (k1 := .i64) (e1 := ((1 : Int))) 1 ((1 : Nat)) (by kernel_rfl) (by kernel_rfl) (by kernel_rfl) (by kernel_rfl) rfl (by omega)) ?_
    refine Xg.any_pure ((Value.slice xa1 (6 : Nat) (6 : Nat))) 4 (by kernel_rfl) rfl (by kernel_rfl) (by kernel_rfl) (by kernel_rfl) (by kernel_rfl) rfl (fun _ => by kernel_rfl) ?_
    refine Xg.any_pure ((iv 1)) 5 (by kernel_rfl) rfl (by kernel_rfl) (by kernel_rfl) (by kernel_rfl) (by kernel_rfl) rfl (fun _ => by kernel_rfl) ?_
    refine Xg.any_pure (.slice xa1 ((1 : Nat)) ((6 : Nat))) 6 (by kernel_rfl) rfl (by kernel_rfl) (by kernel_rfl) (by kernel_rfl) (by kernel_rfl) rfl (Xg.run_sl_hi (elem := 3) (a := xa1) (c := ((6 : Nat))) (len := ((6 : Nat))) (k2 := .i64) (e2 := ((1 : Int))) 1 ((1 : Nat)) (by kernel_rfl) (by kernel_rfl) (by kernel_rfl) (by kernel_rfl) rfl (by omega)) ?_)
  refine Xg.any_each [7] (by kernel_rfl) rfl ⟨?_, trivial⟩
  refine Xg.comes_act rfl (by kernel_rfl) (by kernel_rfl) (Xg.opx_copy_in (elem := 3) (xs := [-1, 0, 0, 0, 0, 0]) (ys := [-1]) (yv := .slice xa1 1 6) (a := xa1) (c := 6) (ax := Xg.subA xa1 6 1 1) (cx := 5) 0 8 1 5 [-1, -1, 0, 0, 0, 0] 1 rfl (by kernel_rfl) (by kernel_rfl) (by kernel_rfl) (fun b e => by rw [e]; exact sub_at (by decide)) (by kernel_rfl) (fun w hS => by exact reads_rd (reads_hi (E := 3) (n := 6) (c := 6) (a := xa1) (sz := 1) (vs := ([-1, 0, 0, 0, 0, 0] : List Int).map (Value.int .i64)) 1 (by decide)) 0 rfl hS) (by decide) (by decide) rfl rfl rfl ?_)
  refine Xg.acts Xg.owes_nil ?_
  (focus
    refine Xg.any_pure ((iv 2)) 8 (by kernel_rfl) rfl (by kernel_rfl) (by kernel_rfl) (by kernel_rfl) (by kernel_rfl) rfl (fun _ => by kernel_rfl) ?_
    refine Xg.any_pure ((iv 2)) 9 (by kernel_rfl) rfl (by kernel_rfl) (by kernel_rfl) (by kernel_rfl) (by kernel_rfl) rfl (fun _ => by kernel_rfl) ?_
    refine Xg.any_nil (by kernel_rfl) ?_
    refine Xg.at_inBlock ?_
    refine Xg.at_inLoop ?_
    refine Xg.at_seq ?_
    refine Xg.at_seq ?_
    refine Xg.at_region ?_
    refine Xg.ops_op (by kernel_rfl) (Xg.opx_pure ((iv 2)) rfl (fun _ => by kernel_rfl) ?_)
    refine Xg.ops_op (by kernel_rfl) (Xg.opx_pure ((Value.slice xa1 (6 : Nat) (6 : Nat))) rfl (fun _ => by kernel_rfl) ?_)
    refine Xg.ops_op (by kernel_rfl) (Xg.opx_pure ((iv 6)) rfl (fun _ => by kernel_rfl) ?_)
    refine Xg.ops_op (by kernel_rfl) (Xg.opx_pure ((Value.bool true)) rfl (fun _ => by kernel_rfl) ?_)
    refine Xg.ops_nil ?_
    refine Xg.at_true (t := true) (by kernel_rfl) rfl ?_
    refine Xg.at_skip ?_
    refine Xg.at_block ?_
    refine Xg.at_draw [7] [] (by kernel_rfl) ?_
    refine Xg.any_pure ((iv 2)) 0 (by kernel_rfl) rfl (by kernel_rfl) (by kernel_rfl) (by kernel_rfl) (by kernel_rfl) rfl (fun _ => by kernel_rfl) ?_
    refine Xg.any_pure ((Value.slice xa1 (6 : Nat) (6 : Nat))) 1 (by kernel_rfl) rfl (by kernel_rfl) (by kernel_rfl) (by kernel_rfl) (by kernel_rfl) rfl (fun _ => by kernel_rfl) ?_
    refine Xg.any_pure ((iv 2)) 2 (by kernel_rfl) rfl (by kernel_rfl) (by kernel_rfl) (by kernel_rfl) (by kernel_rfl) rfl (fun _ => by kernel_rfl) ?_
    refine Xg.any_pure (.slice (Xg.subA xa1 ((6 : Nat)) ((2 : Nat)) 1) (((6 : Nat)) - ((2 : Nat))) (((6 : Nat)) - ((2 : Nat)))) 3 (by kernel_rfl) rfl (by kernel_rfl) (by kernel_rfl) (by kernel_rfl) (by kernel_rfl) rfl (Xg.run_sl_lo (elem := 3) (a := xa1) (c := ((6 : Nat))) (len := ((6 : Nat))) (k1 := .i64) (e1 := ((2 : Int))) 1 ((2 : Nat)) (by kernel_rfl) (by kernel_rfl) (by kernel_rfl) (by kernel_rfl) rfl (by omega)) ?_
    refine Xg.any_pure ((Value.slice xa1 (6 : Nat) (6 : Nat))) 4 (by kernel_rfl) rfl (by kernel_rfl) (by kernel_rfl) (by kernel_rfl) (by kernel_rfl) rfl (fun _ => by kernel_rfl) ?_
    refine Xg.any_pure ((iv 2)) 5 (by kernel_rfl) rfl (by kernel_rfl) (by kernel_rfl) (by kernel_rfl) (by kernel_rfl) rfl (fun _ => by kernel_rfl) ?_
    refine Xg.any_pure (.slice xa1 ((2 : Nat)) ((6 : Nat))) 6 (by kernel_rfl) rfl (by kernel_rfl) (by kernel_rfl) (by kernel_rfl) (by kernel_rfl) rfl (Xg.run_sl_hi (elem := 3) (a := xa1) (c := ((6 : Nat))) (len := ((6 : Nat))) (k2 := .i64) (e2 := ((2 : Int))) 1 ((2 : Nat)) (by kernel_rfl) (by kernel_rfl) (by kernel_rfl) (by kernel_rfl) rfl (by omega)) ?_)
  refine Xg.any_each [7] (by kernel_rfl) rfl ⟨?_, trivial⟩
  refine Xg.comes_act rfl (by kernel_rfl) (by kernel_rfl) (Xg.opx_copy_in (elem := 3) (xs := [-1, -1, 0, 0, 0, 0]) (ys := [-1, -1]) (yv := .slice xa1 2 6) (a := xa1) (c := 6) (ax := Xg.subA xa1 6 2 1) (cx := 4) 0 8 2 4 [-1, -1, -1, -1, 0, 0] 2 rfl (by kernel_rfl) (by kernel_rfl) (by kernel_rfl) (fun b e => by rw [e]; exact sub_at (by decide)) (by kernel_rfl) (fun w hS => by exact reads_rd (reads_hi (E := 3) (n := 6) (c := 6) (a := xa1) (sz := 1) (vs := ([-1, -1, 0, 0, 0, 0] : List Int).map (Value.int .i64)) 2 (by decide)) 0 rfl hS) (by decide) (by decide) rfl rfl rfl ?_)
  refine Xg.acts Xg.owes_nil ?_
  (focus
    refine Xg.any_pure ((iv 4)) 8 (by kernel_rfl) rfl (by kernel_rfl) (by kernel_rfl) (by kernel_rfl) (by kernel_rfl) rfl (fun _ => by kernel_rfl) ?_
    refine Xg.any_pure ((iv 4)) 9 (by kernel_rfl) rfl (by kernel_rfl) (by kernel_rfl) (by kernel_rfl) (by kernel_rfl) rfl (fun _ => by kernel_rfl) ?_
    refine Xg.any_nil (by kernel_rfl) ?_
    refine Xg.at_inBlock ?_
    refine Xg.at_inLoop ?_
    refine Xg.at_seq ?_
    refine Xg.at_seq ?_
    refine Xg.at_region ?_
    refine Xg.ops_op (by kernel_rfl) (Xg.opx_pure ((iv 4)) rfl (fun _ => by kernel_rfl) ?_)
    refine Xg.ops_op (by kernel_rfl) (Xg.opx_pure ((Value.slice xa1 (6 : Nat) (6 : Nat))) rfl (fun _ => by kernel_rfl) ?_)
    refine Xg.ops_op (by kernel_rfl) (Xg.opx_pure ((iv 6)) rfl (fun _ => by kernel_rfl) ?_)
    refine Xg.ops_op (by kernel_rfl) (Xg.opx_pure ((Value.bool true)) rfl (fun _ => by kernel_rfl) ?_)
    refine Xg.ops_nil ?_
    refine Xg.at_true (t := true) (by kernel_rfl) rfl ?_
    refine Xg.at_skip ?_
    refine Xg.at_block ?_
    refine Xg.at_draw [7] [] (by kernel_rfl) ?_
    refine Xg.any_pure ((iv 4)) 0 (by kernel_rfl) rfl (by kernel_rfl) (by kernel_rfl) (by kernel_rfl) (by kernel_rfl) rfl (fun _ => by kernel_rfl) ?_
    refine Xg.any_pure ((Value.slice xa1 (6 : Nat) (6 : Nat))) 1 (by kernel_rfl) rfl (by kernel_rfl) (by kernel_rfl) (by kernel_rfl) (by kernel_rfl) rfl (fun _ => by kernel_rfl) ?_
    refine Xg.any_pure ((iv 4)) 2 (by kernel_rfl) rfl (by kernel_rfl) (by kernel_rfl) (by kernel_rfl) (by kernel_rfl) rfl (fun _ => by kernel_rfl) ?_
    refine Xg.any_pure (.slice (Xg.subA xa1 ((6 : Nat)) ((4 : Nat)) 1) (((6 : Nat)) - ((4 : Nat))) (((6 : Nat)) - ((4 : Nat)))) 3 (by kernel_rfl) rfl (by kernel_rfl) (by kernel_rfl) (by kernel_rfl) (by kernel_rfl) rfl (Xg.run_sl_lo (elem := 3) (a := xa1) (c := ((6 : Nat))) (len := ((6 : Nat))) (k1 := .i64) (e1 := ((4 : Int))) 1 ((4 : Nat)) (by kernel_rfl) (by kernel_rfl) (by kernel_rfl) (by kernel_rfl) rfl (by omega)) ?_
    refine Xg.any_pure ((Value.slice xa1 (6 : Nat) (6 : Nat))) 4 (by kernel_rfl) rfl (by kernel_rfl) (by kernel_rfl) (by kernel_rfl) (by kernel_rfl) rfl (fun _ => by kernel_rfl) ?_
    refine Xg.any_pure ((iv 4)) 5 (by kernel_rfl) rfl (by kernel_rfl) (by kernel_rfl) (by kernel_rfl) (by kernel_rfl) rfl (fun _ => by kernel_rfl) ?_
    refine Xg.any_pure (.slice xa1 ((4 : Nat)) ((6 : Nat))) 6 (by kernel_rfl) rfl (by kernel_rfl) (by kernel_rfl) (by kernel_rfl) (by kernel_rfl) rfl (Xg.run_sl_hi (elem := 3) (a := xa1) (c := ((6 : Nat))) (len := ((6 : Nat))) (k2 := .i64) (e2 := ((4 : Int))) 1 ((4 : Nat)) (by kernel_rfl) (by kernel_rfl) (by kernel_rfl) (by kernel_rfl) rfl (by omega)) ?_)
  refine Xg.any_each [7] (by kernel_rfl) rfl ⟨?_, trivial⟩
  refine Xg.comes_act rfl (by kernel_rfl) (by kernel_rfl) (Xg.opx_copy_in (elem := 3) (xs := [-1, -1, -1, -1, 0, 0]) (ys := [-1, -1, -1, -1]) (yv := .slice xa1 4 6) (a := xa1) (c := 6) (ax := Xg.subA xa1 6 4 1) (cx := 2) 0 8 4 2 [-1, -1, -1, -1, -1, -1] 2 rfl (by kernel_rfl) (by kernel_rfl) (by kernel_rfl) (fun b e => by rw [e]; exact sub_at (by decide)) (by kernel_rfl) (fun w hS => by exact reads_rd (reads_hi (E := 3) (n := 6) (c := 6) (a := xa1) (sz := 1) (vs := ([-1, -1, -1, -1, 0, 0] : List Int).map (Value.int .i64)) 4 (by decide)) 0 rfl hS) (by decide) (by decide) rfl rfl rfl ?_)
  refine Xg.acts Xg.owes_nil ?_
  (focus
    refine Xg.any_pure ((iv 6)) 8 (by kernel_rfl) rfl (by kernel_rfl) (by kernel_rfl) (by kernel_rfl) (by kernel_rfl) rfl (fun _ => by kernel_rfl) ?_
    refine Xg.any_pure ((iv 6)) 9 (by kernel_rfl) rfl (by kernel_rfl) (by kernel_rfl) (by kernel_rfl) (by kernel_rfl) rfl (fun _ => by kernel_rfl) ?_
    refine Xg.any_nil (by kernel_rfl) ?_
    refine Xg.at_inBlock ?_
    refine Xg.at_inLoop ?_
    refine Xg.at_seq ?_
    refine Xg.at_seq ?_
    refine Xg.at_region ?_
    refine Xg.ops_op (by kernel_rfl) (Xg.opx_pure ((iv 6)) rfl (fun _ => by kernel_rfl) ?_)
    refine Xg.ops_op (by kernel_rfl) (Xg.opx_pure ((Value.slice xa1 (6 : Nat) (6 : Nat))) rfl (fun _ => by kernel_rfl) ?_)
    refine Xg.ops_op (by kernel_rfl) (Xg.opx_pure ((iv 6)) rfl (fun _ => by kernel_rfl) ?_)
    refine Xg.ops_op (by kernel_rfl) (Xg.opx_pure ((Value.bool false)) rfl (fun _ => by kernel_rfl) ?_)
    refine Xg.ops_nil ?_
    refine Xg.at_false (t := false) (by kernel_rfl) rfl ?_
    refine Xg.at_exit rfl ?_
    refine Xg.at_seq ?_
    refine Xg.at_region ?_
    refine Xg.ops_op (by kernel_rfl) (Xg.opx_pure ((Value.slice xa1 (6 : Nat) (6 : Nat))) rfl (fun _ => by kernel_rfl) ?_)
    refine Xg.ops_op (by kernel_rfl) (Xg.opx_pure ((Value.slice xa1 (6 : Nat) (6 : Nat))) rfl (fun _ => by kernel_rfl) ?_)
    refine Xg.ops_nil ?_
    refine Xg.at_ret_ps (v := (Value.slice xa1 (6 : Nat) (6 : Nat))) [0] [ints (3 : TypeId) IntKind.i64 xa1 (6 : Nat) [(-1 : Int), (-1 : Int), (-1 : Int), (-1 : Int), (-1 : Int), (-1 : Int)]] Go.Proofs.Try.func39 (fun _ => by kernel_rfl) (by kernel_rfl) (by kernel_rfl) ?_
    refine ⟨((xa1, (6 : Nat))), trivial, by kernel_rfl, by kernel_rfl⟩)

theorem mul64_7 : Does Try.prog 47 [.int .u64 1, .int .u64 7] [] (Ret (.tuple #[.int .u64 0, .int .u64 7]) []) := by
  (focus
    refine Xg.spec_of Go.Proofs.Try.func47 rfl Go.Proofs.Try.ntmps47 fun g F => ?_)
  (focus
    refine Xg.at_seq ?_
    refine Xg.at_region ?_
    refine Xg.ops_op (by kernel_rfl) (Xg.opx_pure ((Value.int IntKind.u64 (0 : Int))) rfl (fun _ => by kernel_rfl) ?_)
    refine Xg.ops_op (by kernel_rfl) (Xg.opx_pure ((Value.int IntKind.u64 (0 : Int))) rfl (fun _ => by kernel_rfl) ?_)
    refine Xg.ops_nil ?_
    refine Xg.at_seq ?_
    refine Xg.at_region ?_
    refine Xg.ops_op (by kernel_rfl) (Xg.opx_pure ((Value.int IntKind.u64 (1 : Int))) rfl (fun _ => by kernel_rfl) ?_)
    refine Xg.ops_op (by kernel_rfl) (Xg.opx_pure ((Value.int IntKind.u64 (1 : Int))) rfl (fun _ => by kernel_rfl) ?_)
    refine Xg.ops_op (by kernel_rfl) (Xg.opx_pure ((Value.int IntKind.u64 (1 : Int))) rfl (fun _ => by kernel_rfl) ?_)
    refine Xg.ops_nil ?_
    refine Xg.at_seq ?_
    refine Xg.at_region ?_
    refine Xg.ops_op (by kernel_rfl) (Xg.opx_pure ((Value.int IntKind.u64 (1 : Int))) rfl (fun _ => by kernel_rfl) ?_)
    refine Xg.ops_op (by kernel_rfl) (Xg.opx_pure ((Value.int IntKind.u64 (0 : Int))) rfl (fun _ => by kernel_rfl) ?_)
    refine Xg.ops_op (by kernel_rfl) (Xg.opx_pure ((Value.int IntKind.u64 (0 : Int))) rfl (fun _ => by kernel_rfl) ?_)
    refine Xg.ops_nil ?_
    refine Xg.at_seq ?_
    refine Xg.at_region ?_
    refine Xg.ops_op (by kernel_rfl) (Xg.opx_pure ((Value.int IntKind.u64 (7 : Int))) rfl (fun _ => by kernel_rfl) ?_)
    refine Xg.ops_op (by kernel_rfl) (Xg.opx_pure ((Value.int IntKind.u64 (7 : Int))) rfl (fun _ => by kernel_rfl) ?_)
    refine Xg.ops_op (by kernel_rfl) (Xg.opx_pure ((Value.int IntKind.u64 (7 : Int))) rfl (fun _ => by kernel_rfl) ?_)
    refine Xg.ops_nil ?_
    refine Xg.at_seq ?_
    refine Xg.at_region ?_
    refine Xg.ops_op (by kernel_rfl) (Xg.opx_pure ((Value.int IntKind.u64 (7 : Int))) rfl (fun _ => by kernel_rfl) ?_)
    refine Xg.ops_op (by kernel_rfl) (Xg.opx_pure ((Value.int IntKind.u64 (0 : Int))) rfl (fun _ => by kernel_rfl) ?_)
    refine Xg.ops_op (by kernel_rfl) (Xg.opx_pure ((Value.int IntKind.u64 (0 : Int))) rfl (fun _ => by kernel_rfl) ?_)
    refine Xg.ops_nil ?_
    refine Xg.at_seq ?_
    refine Xg.at_region ?_
    refine Xg.ops_op (by kernel_rfl) (Xg.opx_pure ((Value.int IntKind.u64 (1 : Int))) rfl (fun _ => by kernel_rfl) ?_)
    refine Xg.ops_op (by kernel_rfl) (Xg.opx_pure ((Value.int IntKind.u64 (7 : Int))) rfl (fun _ => by kernel_rfl) ?_)
    refine Xg.ops_op (by kernel_rfl) (Xg.opx_pure ((Value.int IntKind.u64 (7 : Int))) rfl (fun _ => by kernel_rfl) ?_)
    refine Xg.ops_op (by kernel_rfl) (Xg.opx_pure ((Value.int IntKind.u64 (7 : Int))) rfl (fun _ => by kernel_rfl) ?_)
    refine Xg.ops_nil ?_
    refine Xg.at_seq ?_
    refine Xg.at_region ?_
    refine Xg.ops_op (by kernel_rfl) (Xg.opx_pure ((Value.int IntKind.u64 (0 : Int))) rfl (fun _ => by kernel_rfl) ?_)
    refine Xg.ops_op (by kernel_rfl) (Xg.opx_pure ((Value.int IntKind.u64 (7 : Int))) rfl (fun _ => by kernel_rfl) ?_)
    refine Xg.ops_op (by kernel_rfl) (Xg.opx_pure ((Value.int IntKind.u64 (0 : Int))) rfl (fun _ => by kernel_rfl) ?_)
    refine Xg.ops_op (by kernel_rfl) (Xg.opx_pure ((Value.int IntKind.u64 (7 : Int))) rfl (fun _ => by kernel_rfl) ?_)
    refine Xg.ops_op (by kernel_rfl) (Xg.opx_pure ((Value.int IntKind.u64 (0 : Int))) rfl (fun _ => by kernel_rfl) ?_)
    refine Xg.ops_op (by kernel_rfl) (Xg.opx_pure ((Value.int IntKind.u64 (0 : Int))) rfl (fun _ => by kernel_rfl) ?_)
    refine Xg.ops_op (by kernel_rfl) (Xg.opx_pure ((Value.int IntKind.u64 (0 : Int))) rfl (fun _ => by kernel_rfl) ?_)
    refine Xg.ops_nil ?_
    refine Xg.at_seq ?_
    refine Xg.at_region ?_
    refine Xg.ops_op (by kernel_rfl) (Xg.opx_pure ((Value.int IntKind.u64 (0 : Int))) rfl (fun _ => by kernel_rfl) ?_)
    refine Xg.ops_op (by kernel_rfl) (Xg.opx_pure ((Value.int IntKind.u64 (0 : Int))) rfl (fun _ => by kernel_rfl) ?_)
    refine Xg.ops_op (by kernel_rfl) (Xg.opx_pure ((Value.int IntKind.u64 (0 : Int))) rfl (fun _ => by kernel_rfl) ?_)
    refine Xg.ops_nil ?_
    refine Xg.at_seq ?_
    refine Xg.at_region ?_
    refine Xg.ops_op (by kernel_rfl) (Xg.opx_pure ((Value.int IntKind.u64 (0 : Int))) rfl (fun _ => by kernel_rfl) ?_)
    refine Xg.ops_op (by kernel_rfl) (Xg.opx_pure ((Value.int IntKind.u64 (0 : Int))) rfl (fun _ => by kernel_rfl) ?_)
    refine Xg.ops_op (by kernel_rfl) (Xg.opx_pure ((Value.int IntKind.u64 (0 : Int))) rfl (fun _ => by kernel_rfl) ?_)
    refine Xg.ops_nil ?_
    refine Xg.at_seq ?_
    refine Xg.at_region ?_
    refine Xg.ops_op (by kernel_rfl) (Xg.opx_pure ((Value.int IntKind.u64 (0 : Int))) rfl (fun _ => by kernel_rfl) ?_)
    refine Xg.ops_op (by kernel_rfl) (Xg.opx_pure ((Value.int IntKind.u64 (1 : Int))) rfl (fun _ => by kernel_rfl) ?_)
    refine Xg.ops_op (by kernel_rfl) (Xg.opx_pure ((Value.int IntKind.u64 (0 : Int))) rfl (fun _ => by kernel_rfl) ?_)
    refine Xg.ops_op (by kernel_rfl) (Xg.opx_pure ((Value.int IntKind.u64 (0 : Int))) rfl (fun _ => by kernel_rfl) ?_)
    refine Xg.ops_op (by kernel_rfl) (Xg.opx_pure ((Value.int IntKind.u64 (0 : Int))) rfl (fun _ => by kernel_rfl) ?_)
    refine Xg.ops_op (by kernel_rfl) (Xg.opx_pure ((Value.int IntKind.u64 (0 : Int))) rfl (fun _ => by kernel_rfl) ?_)
    refine Xg.ops_nil ?_
    refine Xg.at_seq ?_
    refine Xg.at_region ?_
    refine Xg.ops_op (by kernel_rfl) (Xg.opx_pure ((Value.int IntKind.u64 (0 : Int))) rfl (fun _ => by kernel_rfl) ?_)
    refine Xg.ops_op (by kernel_rfl) (Xg.opx_pure ((Value.int IntKind.u64 (0 : Int))) rfl (fun _ => by kernel_rfl) ?_)
    refine Xg.ops_op (by kernel_rfl) (Xg.opx_pure ((Value.int IntKind.u64 (0 : Int))) rfl (fun _ => by kernel_rfl) ?_)
    refine Xg.ops_op (by kernel_rfl) (Xg.opx_pure ((Value.int IntKind.u64 (0 : Int))) rfl (fun _ => by kernel_rfl) ?_)
    refine Xg.ops_op (by kernel_rfl) (Xg.opx_pure ((Value.int IntKind.u64 (0 : Int))) rfl (fun _ => by kernel_rfl) ?_)
    refine Xg.ops_op (by kernel_rfl) (Xg.opx_pure ((Value.int IntKind.u64 (0 : Int))) rfl (fun _ => by kernel_rfl) ?_)
    refine Xg.ops_op (by kernel_rfl) (Xg.opx_pure ((Value.int IntKind.u64 (0 : Int))) rfl (fun _ => by kernel_rfl) ?_)
    refine Xg.ops_op (by kernel_rfl) (Xg.opx_pure ((Value.int IntKind.u64 (0 : Int))) rfl (fun _ => by kernel_rfl) ?_)
    refine Xg.ops_op (by kernel_rfl) (Xg.opx_pure ((Value.int IntKind.u64 (0 : Int))) rfl (fun _ => by kernel_rfl) ?_)
    refine Xg.ops_nil ?_
    refine Xg.at_seq ?_
    refine Xg.at_region ?_
    refine Xg.ops_op (by kernel_rfl) (Xg.opx_pure ((Value.int IntKind.u64 (1 : Int))) rfl (fun _ => by kernel_rfl) ?_)
    refine Xg.ops_op (by kernel_rfl) (Xg.opx_pure ((Value.int IntKind.u64 (7 : Int))) rfl (fun _ => by kernel_rfl) ?_)
    refine Xg.ops_op (by kernel_rfl) (Xg.opx_pure ((Value.int IntKind.u64 (7 : Int))) rfl (fun _ => by kernel_rfl) ?_)
    refine Xg.ops_op (by kernel_rfl) (Xg.opx_pure ((Value.int IntKind.u64 (7 : Int))) rfl (fun _ => by kernel_rfl) ?_)
    refine Xg.ops_nil ?_
    refine Xg.at_ret_ps (v := (Value.tuple #[Value.int IntKind.u64 (0 : Int), Value.int IntKind.u64 (7 : Int)])) [] [] Go.Proofs.Try.func47 (fun _ => by kernel_rfl) (by kernel_rfl) (by kernel_rfl) ?_
    exact ⟨by kernel_rfl, by kernel_rfl⟩)
theorem mul_7 : Does Try.prog 45 [.int .u64 1, .int .u64 7] [] (Ret (.tuple #[.int .u64 0, .int .u64 7]) []) := by
  (focus
    refine Xg.spec_of Go.Proofs.Try.func45 rfl Go.Proofs.Try.ntmps45 fun g F => ?_)
  (focus
    refine Xg.at_seq ?_
    refine Xg.at_region ?_
    refine Xg.ops_op (by kernel_rfl) (Xg.opx_pure ((Value.int IntKind.u64 (0 : Int))) rfl (fun _ => by kernel_rfl) ?_)
    refine Xg.ops_op (by kernel_rfl) (Xg.opx_pure ((Value.int IntKind.u64 (0 : Int))) rfl (fun _ => by kernel_rfl) ?_)
    refine Xg.ops_nil ?_
    refine Xg.at_seq ?_
    refine Xg.at_false (t := false) (by kernel_rfl) rfl ?_
    refine Xg.at_skip ?_
    refine Xg.at_seq ?_
    refine Xg.at_region ?_
    refine Xg.ops_op (by kernel_rfl) (Xg.opx_pure ((Value.int IntKind.u64 (1 : Int))) rfl (fun _ => by kernel_rfl) ?_)
    refine Xg.ops_op (by kernel_rfl) (Xg.opx_pure ((Value.int IntKind.u64 (7 : Int))) rfl (fun _ => by kernel_rfl) ?_)
    refine Xg.ops_op (by kernel_rfl) (Xg.opx_call1' [] [] (fun _ => by kernel_rfl) (@Go.Proofs.Ytijjficnhpokdaa.mul64_7 ) (by kernel_rfl) (by kernel_rfl) (by kernel_rfl) ?_)
    refine Xg.ops_op (by kernel_rfl) (Xg.opx_pure ((Value.tuple #[Value.int IntKind.u64 (0 : Int), Value.int IntKind.u64 (7 : Int)])) rfl (fun _ => by kernel_rfl) ?_)
    refine Xg.ops_op (by kernel_rfl) (Xg.opx_pure ((Value.int IntKind.u64 (0 : Int))) rfl (fun _ => by kernel_rfl) ?_)
    refine Xg.ops_op (by kernel_rfl) (Xg.opx_pure ((Value.int IntKind.u64 (7 : Int))) rfl (fun _ => by kernel_rfl) ?_)
    refine Xg.ops_op (by kernel_rfl) (Xg.opx_pure ((Value.int IntKind.u64 (0 : Int))) rfl (fun _ => by kernel_rfl) ?_)
    refine Xg.ops_op (by kernel_rfl) (Xg.opx_pure ((Value.int IntKind.u64 (7 : Int))) rfl (fun _ => by kernel_rfl) ?_)
    refine Xg.ops_nil ?_
    refine Xg.at_seq ?_
    refine Xg.at_region ?_
    refine Xg.ops_op (by kernel_rfl) (Xg.opx_pure ((Value.int IntKind.u64 (0 : Int))) rfl (fun _ => by kernel_rfl) ?_)
    refine Xg.ops_op (by kernel_rfl) (Xg.opx_pure ((Value.int IntKind.u64 (7 : Int))) rfl (fun _ => by kernel_rfl) ?_)
    refine Xg.ops_op (by kernel_rfl) (Xg.opx_pure ((Value.int IntKind.u64 (0 : Int))) rfl (fun _ => by kernel_rfl) ?_)
    refine Xg.ops_op (by kernel_rfl) (Xg.opx_pure ((Value.int IntKind.u64 (7 : Int))) rfl (fun _ => by kernel_rfl) ?_)
    refine Xg.ops_nil ?_
    refine Xg.at_ret_ps (v := (Value.tuple #[Value.int IntKind.u64 (0 : Int), Value.int IntKind.u64 (7 : Int)])) [] [] Go.Proofs.Try.func45 (fun _ => by kernel_rfl) (by kernel_rfl) (by kernel_rfl) ?_
    exact ⟨by kernel_rfl, by kernel_rfl⟩)
theorem repeat_7 (b : Nat) : Does Try.prog 39 [.slice (some ⟨b, 0, none⟩) 1 1, .int .i64 7] [row b 3 [.int .i64 (-1)]]
    (RetE (fun x : Option Addr × Nat => True) (fun x => .slice x.1 7 x.2) (fun x => [ints 3 .i64 x.1 x.2 [-1, -1, -1, -1, -1, -1, -1]])) := by
  (focus
    refine Xg.spec_of Go.Proofs.Try.func39 rfl Go.Proofs.Try.ntmps39 fun g F => ?_)
  (focus
    refine Xg.at_seq ?_
    refine Xg.at_region ?_
    refine Xg.ops_op (by kernel_rfl) (Xg.opx_pure ((Value.slice none (0 : Nat) (0 : Nat))) rfl (fun _ => by kernel_rfl) ?_)
    refine Xg.ops_nil ?_
    refine Xg.at_seq ?_
    refine Xg.at_seq ?_
    refine Xg.at_region ?_
    refine Xg.ops_op (by kernel_rfl) (Xg.opx_pure ((iv 7)) rfl (fun _ => by kernel_rfl) ?_)
    refine Xg.ops_op (by kernel_rfl) (Xg.opx_pure ((Value.bool false)) rfl (fun _ => by kernel_rfl) ?_)
    refine Xg.ops_nil ?_
    refine Xg.at_false (t := false) (by kernel_rfl) rfl ?_
    refine Xg.at_skip ?_
    refine Xg.at_seq ?_
    refine Xg.at_region ?_
    refine Xg.ops_op (by kernel_rfl) (Xg.opx_pure ((Value.slice (some (Addr.mk b (0 : Nat) none)) (1 : Nat) (1 : Nat))) rfl (fun _ => by kernel_rfl) ?_)
    refine Xg.ops_op (by kernel_rfl) (Xg.opx_pure ((iv 1)) rfl (fun _ => by kernel_rfl) ?_)
    refine Xg.ops_op (by kernel_rfl) (Xg.opx_pure (.int .u64 ((1 : Int))) rfl (fun _ => by kernel_rfl) ?_)
    refine Xg.ops_op (by kernel_rfl) (Xg.opx_pure ((iv 7)) rfl (fun _ => by kernel_rfl) ?_)
    refine Xg.ops_op (by kernel_rfl) (Xg.opx_pure (.int .u64 ((7 : Int))) rfl (fun _ => by kernel_rfl) ?_)
    refine Xg.ops_op (by kernel_rfl) (Xg.opx_call1' [] [row b (3 : TypeId) [iv (-1)]] (fun _ => by kernel_rfl) (@Go.Proofs.Ytijjficnhpokdaa.mul_7 ) (by kernel_rfl) (by kernel_rfl) (by kernel_rfl) ?_)
    refine Xg.ops_op (by kernel_rfl) (Xg.opx_pure ((Value.tuple #[Value.int IntKind.u64 (0 : Int), Value.int IntKind.u64 (7 : Int)])) rfl (fun _ => by kernel_rfl) ?_)
    refine Xg.ops_op (by kernel_rfl) (Xg.opx_pure ((Value.int IntKind.u64 (0 : Int))) rfl (fun _ => by kernel_rfl) ?_)
    refine Xg.ops_op (by kernel_rfl) (Xg.opx_pure ((Value.int IntKind.u64 (7 : Int))) rfl (fun _ => by kernel_rfl) ?_)
    refine Xg.ops_op (by kernel_rfl) (Xg.opx_pure ((Value.int IntKind.u64 (0 : Int))) rfl (fun _ => by kernel_rfl) ?_)
    refine Xg.ops_op (by kernel_rfl) (Xg.opx_pure ((Value.int IntKind.u64 (7 : Int))) rfl (fun _ => by kernel_rfl) ?_)
    refine Xg.ops_nil ?_
    refine Xg.at_seq ?_
    refine Xg.at_seq ?_
    refine Xg.at_region ?_
    refine Xg.ops_op (by kernel_rfl) (Xg.opx_pure ((Value.int IntKind.u64 (0 : Int))) rfl (fun _ => by kernel_rfl) ?_)
    refine Xg.ops_op (by kernel_rfl) (Xg.opx_pure ((Value.bool false)) rfl (fun _ => by kernel_rfl) ?_)
    refine Xg.ops_op (by kernel_rfl) (Xg.opx_pure ((Value.bool false)) rfl (fun _ => by kernel_rfl) ?_)
    refine Xg.ops_op (by kernel_rfl) (Xg.opx_pure ((Value.int IntKind.u64 (7 : Int))) rfl (fun _ => by kernel_rfl) ?_)
    refine Xg.ops_op (by kernel_rfl) (Xg.opx_pure ((Value.bool false)) rfl (fun _ => by kernel_rfl) ?_)
    refine Xg.ops_op (by kernel_rfl) (Xg.opx_pure ((Value.bool false)) rfl (fun _ => by kernel_rfl) ?_)
    refine Xg.ops_nil ?_
    refine Xg.at_false (t := false) (by kernel_rfl) rfl ?_
    refine Xg.at_skip ?_
    refine Xg.at_seq ?_
    refine Xg.at_region ?_
    refine Xg.ops_op (by kernel_rfl) (Xg.opx_pure ((Value.int IntKind.u64 (7 : Int))) rfl (fun _ => by kernel_rfl) ?_)
    refine Xg.ops_op (by kernel_rfl) (Xg.opx_pure (.int .i64 ((7 : Int))) rfl (fun _ => by kernel_rfl) ?_)
    refine Xg.ops_op (by kernel_rfl) (Xg.opx_make_ints (elem := 3) (kd := .i64) (by_ := 8) (k1 := .i64) (k2 := .i64) (n := ((7 : Int))) (c := ((7 : Int))) ((7 : Nat)) ((7 : Nat)) [(0 : Int), (0 : Int), (0 : Int), (0 : Int), (0 : Int), (0 : Int), (0 : Int)] (by kernel_rfl) (by kernel_rfl) (by kernel_rfl) (by kernel_rfl) rfl rfl (by omega) (by omega) (by first | rfl | (simp; done)) fun xa1 xh1 => ?_)
    have xl1 : ([(0 : Int), (0 : Int), (0 : Int), (0 : Int), (0 : Int), (0 : Int), (0 : Int)] : List Int).length = ((7 : Nat)) := by first | rfl | (simp; done)
    refine Xg.ops_op (by kernel_rfl) (Xg.opx_pure ((Value.slice xa1 (7 : Nat) (7 : Nat))) rfl (fun _ => by kernel_rfl) ?_)
    refine Xg.ops_nil ?_
    refine Xg.at_seq ?_
    refine Xg.at_region ?_
    refine Xg.ops_op (by kernel_rfl) (Xg.opx_pure ((Value.slice xa1 (7 : Nat) (7 : Nat))) rfl (fun _ => by kernel_rfl) ?_)
    refine Xg.ops_op (by kernel_rfl) (Xg.opx_pure ((Value.slice (some (Addr.mk b (0 : Nat) none)) (1 : Nat) (1 : Nat))) rfl (fun _ => by kernel_rfl) ?_))
  refine Xg.ops_op (by kernel_rfl) (Xg.opx_copy_in (elem := 3) (xs := [0, 0, 0, 0, 0, 0, 0]) (ys := [-1]) (yv := .slice (some ⟨b, 0, none⟩) 1 1) (cx := 7) 0 8 0 7 [-1, 0, 0, 0, 0, 0, 0] 1 rfl (by kernel_rfl) (by kernel_rfl) (by kernel_rfl) (fun b e => e) (by kernel_rfl) (fun w hS => by exact row_rd hS 1 rfl rfl) (by decide) (by decide) rfl rfl rfl ?_)
  (focus
    refine Xg.ops_op (by kernel_rfl) (Xg.opx_pure ((iv 1)) rfl (fun _ => by kernel_rfl) ?_)
    refine Xg.ops_nil ?_
    refine Xg.at_seq ?_
    refine Xg.at_block ?_
    refine Xg.at_loop ?_
    refine Xg.at_seq ?_
    refine Xg.at_seq ?_
    refine Xg.at_region ?_
    refine Xg.ops_op (by kernel_rfl) (Xg.opx_pure ((iv 1)) rfl (fun _ => by kernel_rfl) ?_)
    refine Xg.ops_op (by kernel_rfl) (Xg.opx_pure ((Value.slice xa1 (7 : Nat) (7 : Nat))) rfl (fun _ => by kernel_rfl) ?_)
    refine Xg.ops_op (by kernel_rfl) (Xg.opx_pure ((iv 7)) rfl (fun _ => by kernel_rfl) ?_)
    refine Xg.ops_op (by kernel_rfl) (Xg.opx_pure ((Value.bool true)) rfl (fun _ => by kernel_rfl) ?_)
    refine Xg.ops_nil ?_
    refine Xg.at_true (t := true) (by kernel_rfl) rfl ?_
    refine Xg.at_skip ?_
    refine Xg.at_block ?_
    refine Xg.at_draw [7] [] (by kernel_rfl) ?_
    refine Xg.any_pure ((iv 1)) 0 (by kernel_rfl) rfl (by kernel_rfl) (by kernel_rfl) (by kernel_rfl) (by kernel_rfl) rfl (fun _ => by kernel_rfl) ?_
    refine Xg.any_pure ((Value.slice xa1 (7 : Nat) (7 : Nat))) 1 (by kernel_rfl) rfl (by kernel_rfl) (by kernel_rfl) (by kernel_rfl) (by kernel_rfl) rfl (fun _ => by kernel_rfl) ?_
    refine Xg.any_pure ((iv 1)) 2 (by kernel_rfl) rfl (by kernel_rfl) (by kernel_rfl) (by kernel_rfl) (by kernel_rfl) rfl (fun _ => by kernel_rfl) ?_
    refine Xg.any_pure (.slice (Xg.subA xa1 ((7 : Nat)) ((1 : Nat)) 1) (((7 : Nat)) - ((1 : Nat))) (((7 : Nat)) - ((1 : Nat)))) 3 (by kernel_rfl) rfl (by kernel_rfl) (by kernel_rfl) (by kernel_rfl) (by kernel_rfl) rfl (Xg.run_sl_lo (elem := 3) (a := xa1) (c := ((7 : Nat))) (len := ((7 : Nat))) (k1 := .i64) (e1 := ((1 : Int))) 1 ((1 : Nat)) (by kernel_rfl) (by kernel_rfl) (by kernel_rfl) (by kernel_rfl) rfl (by omega)) ?_
    refine Xg.any_pure ((Value.slice xa1 (7 : Nat) (7 : Nat))) 4 (by kernel_rfl) rfl (by kernel_rfl) (by kernel_rfl) (by kernel_rfl) (by kernel_rfl) rfl (fun _ => by kernel_rfl) ?_
    refine Xg.any_pure ((iv 1)) 5 (by kernel_rfl) rfl (by kernel_rfl) (by kernel_rfl) (by kernel_rfl) (by kernel_rfl) rfl (fun _ => by kernel_rfl) ?_
    refine Xg.any_pure (.slice xa1 ((1 : Nat)) ((7 : Nat))) 6 (by kernel_rfl) rfl (by kernel_rfl) (by kernel_rfl) (by kernel_rfl) (by kernel_rfl) rfl (Xg.run_sl_hi (elem := 3) (a := xa1) (c := ((7 : Nat))) (len := ((7 : Nat))) (k2 := .i64) (e2 := ((1 : Int))) 1 ((1 : Nat)) (by kernel_rfl) (by kernel_rfl) (by kernel_rfl) (by kernel_rfl) rfl (by omega)) ?_)
  refine Xg.any_each [7] (by kernel_rfl) rfl ⟨?_, trivial⟩
  refine Xg.comes_act rfl (by kernel_rfl) (by kernel_rfl) (Xg.opx_copy_in (elem := 3) (xs := [-1, 0, 0, 0, 0, 0, 0]) (ys := [-1]) (yv := .slice xa1 1 7) (a := xa1) (c := 7) (ax := Xg.subA xa1 7 1 1) (cx := 6) 0 8 1 6 [-1, -1, 0, 0, 0, 0, 0] 1 rfl (by kernel_rfl) (by kernel_rfl) (by kernel_rfl) (fun b e => by rw [e]; exact sub_at (by decide)) (by kernel_rfl) (fun w hS => by exact reads_rd (reads_hi (E := 3) (n := 7) (c := 7) (a := xa1) (sz := 1) (vs := ([-1, 0, 0, 0, 0, 0, 0] : List Int).map (Value.int .i64)) 1 (by decide)) 0 rfl hS) (by decide) (by decide) rfl rfl rfl ?_)
  refine Xg.acts Xg.owes_nil ?_
  (focus
    refine Xg.any_pure ((iv 2)) 8 (by kernel_rfl) rfl (by kernel_rfl) (by kernel_rfl) (by kernel_rfl) (by kernel_rfl) rfl (fun _ => by kernel_rfl) ?_
    refine Xg.any_pure ((iv 2)) 9 (by kernel_rfl) rfl (by kernel_rfl) (by kernel_rfl) (by kernel_rfl) (by kernel_rfl) rfl (fun _ => by kernel_rfl) ?_
    refine Xg.any_nil (by kernel_rfl) ?_
    refine Xg.at_inBlock ?_
    refine Xg.at_inLoop ?_
    refine Xg.at_seq ?_
    refine Xg.at_seq ?_
    refine Xg.at_region ?_
    refine Xg.ops_op (by kernel_rfl) (Xg.opx_pure ((iv 2)) rfl (fun _ => by kernel_rfl) ?_)
    refine Xg.ops_op (by kernel_rfl) (Xg.opx_pure ((Value.slice xa1 (7 : Nat) (7 : Nat))) rfl (fun _ => by kernel_rfl) ?_)
    refine Xg.ops_op (by kernel_rfl) (Xg.opx_pure ((iv 7)) rfl (fun _ => by kernel_rfl) ?_)
    refine Xg.ops_op (by kernel_rfl) (Xg.opx_pure ((Value.bool true)) rfl (fun _ => by kernel_rfl) ?_)
    refine Xg.ops_nil ?_
    refine Xg.at_true (t := true) (by kernel_rfl) rfl ?_
    refine Xg.at_skip ?_
    refine Xg.at_block ?_
    refine Xg.at_draw [7] [] (by kernel_rfl) ?_
    refine Xg.any_pure ((iv 2)) 0 (by kernel_rfl) rfl (by kernel_rfl) (by kernel_rfl) (by kernel_rfl) (by kernel_rfl) rfl (fun _ => by kernel_rfl) ?_
    refine Xg.any_pure ((Value.slice xa1 (7 : Nat) (7 : Nat))) 1 (by kernel_rfl) rfl (by kernel_rfl) (by kernel_rfl) (by kernel_rfl) (by kernel_rfl) rfl (fun _ => by kernel_rfl) ?_
    refine Xg.any_pure ((iv 2)) 2 (by kernel_rfl) rfl (by kernel_rfl) (by kernel_rfl) (by kernel_rfl) (by kernel_rfl) rfl (fun _ => by kernel_rfl) ?_
    refine Xg.any_pure (.slice (Xg.subA xa1 ((7 : Nat)) ((2 : Nat)) 1) (((7 : Nat)) - ((2 : Nat))) (((7 : Nat)) - ((2 : Nat)))) 3 (by kernel_rfl) rfl (by kernel_rfl) (by kernel_rfl) (by kernel_rfl) (by kernel_rfl) rfl (Xg.run_sl_lo (elem := 3) (a := xa1) (c := ((7 : Nat))) (len := ((7 : Nat))) (k1 := .i64) (e1 := ((2 : Int))) 1 ((2 : Nat)) (by kernel_rfl) (by kernel_rfl) (by kernel_rfl) (by kernel_rfl) rfl (by omega)) ?_
    refine Xg.any_pure ((Value.slice xa1 (7 : Nat) (7 : Nat))) 4 (by kernel_rfl) rfl (by kernel_rfl) (by kernel_rfl) (by kernel_rfl) (by kernel_rfl) rfl (fun _ => by kernel_rfl) ?_
    refine Xg.any_pure ((iv 2)) 5 (by kernel_rfl) rfl (by kernel_rfl) (by kernel_rfl) (by kernel_rfl) (by kernel_rfl) rfl (fun _ => by kernel_rfl) ?_
    refine Xg.any_pure (.slice xa1 ((2 : Nat)) ((7 : Nat))) 6 (by kernel_rfl) rfl (by kernel_rfl) (by kernel_rfl) (by kernel_rfl) (by kernel_rfl) rfl (Xg.run_sl_hi (elem := 3) (a := xa1) (c := ((7 : Nat))) (len := ((7 : Nat))) (k2 := .i64) (e2 := ((2 : Int))) 1 ((2 : Nat)) (by kernel_rfl) (by kernel_rfl) (by kernel_rfl) (by kernel_rfl) rfl (by omega)) ?_)
  refine Xg.any_each [7] (by kernel_rfl) rfl ⟨?_, trivial⟩
  refine Xg.comes_act rfl (by kernel_rfl) (by kernel_rfl) (Xg.opx_copy_in (elem := 3) (xs := [-1, -1, 0, 0, 0, 0, 0]) (ys := [-1, -1]) (yv := .slice xa1 2 7) (a := xa1) (c := 7) (ax := Xg.subA xa1 7 2 1) (cx := 5) 0 8 2 5 [-1, -1, -1, -1, 0, 0, 0] 2 rfl (by kernel_rfl) (by kernel_rfl) (by kernel_rfl) (fun b e => by rw [e]; exact sub_at (by decide)) (by kernel_rfl) (fun w hS => by exact reads_rd (reads_hi (E := 3) (n := 7) (c := 7) (a := xa1) (sz := 1) (vs := ([-1, -1, 0, 0, 0, 0, 0] : List Int).map (Value.int .i64)) 2 (by decide)) 0 rfl hS) (by decide) (by decide) rfl rfl rfl ?_)
  refine Xg.acts Xg.owes_nil ?_
  (focus
    refine Xg.any_pure ((iv 4)) 8 (by kernel_rfl) rfl (by kernel_rfl) (by kernel_rfl) (by kernel_rfl) (by kernel_rfl) rfl (fun _ => by kernel_rfl) ?_
    refine Xg.any_pure ((iv 4)) 9 (by kernel_rfl) rfl (by kernel_rfl) (by kernel_rfl) (by kernel_rfl) (by kernel_rfl) rfl (fun _ => by kernel_rfl) ?_
    refine Xg.any_nil (by kernel_rfl) ?_
    refine Xg.at_inBlock ?_
    refine Xg.at_inLoop ?_
    refine Xg.at_seq ?_
    refine Xg.at_seq ?_
    refine Xg.at_region ?_
    refine Xg.ops_op (by kernel_rfl) (Xg.opx_pure ((iv 4)) rfl (fun _ => by kernel_rfl) ?_)
    refine Xg.ops_op (by kernel_rfl) (Xg.opx_pure ((Value.slice xa1 (7 : Nat) (7 : Nat))) rfl (fun _ => by kernel_rfl) ?_)
    refine Xg.ops_op (by kernel_rfl) (Xg.opx_pure ((iv 7)) rfl (fun _ => by kernel_rfl) ?_)
    refine Xg.ops_op (by kernel_rfl) (Xg.opx_pure ((Value.bool true)) rfl (fun _ => by kernel_rfl) ?_)
    refine Xg.ops_nil ?_
    refine Xg.at_true (t := true) (by kernel_rfl) rfl ?_
    refine Xg.at_skip ?_
    refine Xg.at_block ?_
    refine Xg.at_draw [7] [] (by kernel_rfl) ?_
    refine Xg.any_pure ((iv 4)) 0 (by kernel_rfl) rfl (by kernel_rfl) (by kernel_rfl) (by kernel_rfl) (by kernel_rfl) rfl (fun _ => by kernel_rfl) ?_
    refine Xg.any_pure ((Value.slice xa1 (7 : Nat) (7 : Nat))) 1 (by kernel_rfl) rfl (by kernel_rfl) (by kernel_rfl) (by kernel_rfl) (by kernel_rfl) rfl (fun _ => by kernel_rfl) ?_
    refine Xg.any_pure ((iv 4)) 2 (by kernel_rfl) rfl (by kernel_rfl) (by kernel_rfl) (by kernel_rfl) (by kernel_rfl) rfl (fun _ => by kernel_rfl) ?_
    refine Xg.any_pure (.slice (Xg.subA xa1 ((7 : Nat)) ((4 : Nat)) 1) (((7 : Nat)) - ((4 : Nat))) (((7 : Nat)) - ((4 : Nat)))) 3 (by kernel_rfl) rfl (by kernel_rfl) (by kernel_rfl) (by kernel_rfl) (by kernel_rfl) rfl (Xg.run_sl_lo (elem := 3) (a := xa1) (c := ((7 : Nat))) (len := ((7 : Nat))) (k1 := .i64) (e1 := ((4 : Int))) 1 ((4 : Nat)) (by kernel_rfl) (by kernel_rfl) (by kernel_rfl) (by kernel_rfl) rfl (by omega)) ?_
    refine Xg.any_pure ((Value.slice xa1 (7 : Nat) (7 : Nat))) 4 (by kernel_rfl) rfl (by kernel_rfl) (by kernel_rfl) (by kernel_rfl) (by kernel_rfl) rfl (fun _ => by kernel_rfl) ?_
    refine Xg.any_pure ((iv 4)) 5 (by kernel_rfl) rfl (by kernel_rfl) (by kernel_rfl) (by kernel_rfl) (by kernel_rfl) rfl (fun _ => by kernel_rfl) ?_
    refine Xg.any_pure (.slice xa1 ((4 : Nat)) ((7 : Nat))) 6 (by kernel_rfl) rfl (by kernel_rfl) (by kernel_rfl) (by kernel_rfl) (by kernel_rfl) rfl (Xg.run_sl_hi (elem := 3) (a := xa1) (c := ((7 : Nat))) (len := ((7 : Nat))) (k2 := .i64) (e2 := ((4 : Int))) 1 ((4 : Nat)) (by kernel_rfl) (by kernel_rfl) (by kernel_rfl) (by kernel_rfl) rfl (by omega)) ?_)
  refine Xg.any_each [7] (by kernel_rfl) rfl ⟨?_, trivial⟩
  refine Xg.comes_act rfl (by kernel_rfl) (by kernel_rfl) (Xg.opx_copy_in (elem := 3) (xs := [-1, -1, -1, -1, 0, 0, 0]) (ys := [-1, -1, -1, -1]) (yv := .slice xa1 4 7) (a := xa1) (c := 7) (ax := Xg.subA xa1 7 4 1) (cx := 3) 0 8 4 3 [-1, -1, -1, -1, -1, -1, -1] 3 rfl (by kernel_rfl) (by kernel_rfl) (by kernel_rfl) (fun b e => by rw [e]; exact sub_at (by decide)) (by kernel_rfl) (fun w hS => by exact reads_rd (reads_hi (E := 3) (n := 7) (c := 7) (a := xa1) (sz := 1) (vs := ([-1, -1, -1, -1, 0, 0, 0] : List Int).map (Value.int .i64)) 4 (by decide)) 0 rfl hS) (by decide) (by decide) rfl rfl rfl ?_)
  refine Xg.acts Xg.owes_nil ?_
  (focus
    refine Xg.any_pure ((iv 7)) 8 (by kernel_rfl) rfl (by kernel_rfl) (by kernel_rfl) (by kernel_rfl) (by kernel_rfl) rfl (fun _ => by kernel_rfl) ?_
    refine Xg.any_pure ((iv 7)) 9 (by kernel_rfl) rfl (by kernel_rfl) (by kernel_rfl) (by kernel_rfl) (by kernel_rfl) rfl (fun _ => by kernel_rfl) ?_
    refine Xg.any_nil (by kernel_rfl) ?_
    refine Xg.at_inBlock ?_
    refine Xg.at_inLoop ?_
    refine Xg.at_seq ?_
    refine Xg.at_seq ?_
    refine Xg.at_region ?_
    refine Xg.ops_op (by kernel_rfl) (Xg.opx_pure ((iv 7)) rfl (fun _ => by kernel_rfl) ?_)
    refine Xg.ops_op (by kernel_rfl) (Xg.opx_pure ((Value.slice xa1 (7 : Nat) (7 : Nat))) rfl (fun _ => by kernel_rfl) ?_)
    refine Xg.ops_op (by kernel_rfl) (Xg.opx_pure ((iv 7)) rfl (fun _ => by kernel_rfl) ?_)
    refine Xg.ops_op (by kernel_rfl) (Xg.opx_pure ((Value.bool false)) rfl (fun _ => by kernel_rfl) ?_)
    refine Xg.ops_nil ?_
    refine Xg.at_false (t := false) (by kernel_rfl) rfl ?_
    refine Xg.at_exit rfl ?_
    refine Xg.at_seq ?_
    refine Xg.at_region ?_
    refine Xg.ops_op (by kernel_rfl) (Xg.opx_pure ((Value.slice xa1 (7 : Nat) (7 : Nat))) rfl (fun _ => by kernel_rfl) ?_)
    refine Xg.ops_op (by kernel_rfl) (Xg.opx_pure ((Value.slice xa1 (7 : Nat) (7 : Nat))) rfl (fun _ => by kernel_rfl) ?_)
    refine Xg.ops_nil ?_
    refine Xg.at_ret_ps (v := (Value.slice xa1 (7 : Nat) (7 : Nat))) [0] [ints (3 : TypeId) IntKind.i64 xa1 (7 : Nat) [(-1 : Int), (-1 : Int), (-1 : Int), (-1 : Int), (-1 : Int), (-1 : Int), (-1 : Int)]] Go.Proofs.Try.func39 (fun _ => by kernel_rfl) (by kernel_rfl) (by kernel_rfl) ?_
    refine ⟨((xa1, (7 : Nat))), trivial, by kernel_rfl, by kernel_rfl⟩)

theorem mul64_8 : Does Try.prog 47 [.int .u64 1, .int .u64 8] [] (Ret (.tuple #[.int .u64 0, .int .u64 8]) []) := by
  (focus
    refine Xg.spec_of Go.Proofs.Try.func47 rfl Go.Proofs.Try.ntmps47 fun g F => ?_)
  (focus
    refine Xg.at_seq ?_
    refine Xg.at_region ?_
    refine Xg.ops_op (by kernel_rfl) (Xg.opx_pure ((Value.int IntKind.u64 (0 : Int))) rfl (fun _ => by kernel_rfl) ?_)
    refine Xg.ops_op (by kernel_rfl) (Xg.opx_pure ((Value.int IntKind.u64 (0 : Int))) rfl (fun _ => by kernel_rfl) ?_)
    refine Xg.ops_nil ?_
    refine Xg.at_seq ?_
    refine Xg.at_region ?_
    refine Xg.ops_op (by kernel_rfl) (Xg.opx_pure ((Value.int IntKind.u64 (1 : Int))) rfl (fun _ => by kernel_rfl) ?_)
    refine Xg.ops_op (by kernel_rfl) (Xg.opx_pure ((Value.int IntKind.u64 (1 : Int))) rfl (fun _ => by kernel_rfl) ?_)
    refine Xg.ops_op (by kernel_rfl) (Xg.opx_pure ((Value.int IntKind.u64 (1 : Int))) rfl (fun _ => by kernel_rfl) ?_)
    refine Xg.ops_nil ?_
    refine Xg.at_seq ?_
    refine Xg.at_region ?_
    refine Xg.ops_op (by kernel_rfl) (Xg.opx_pure ((Value.int IntKind.u64 (1 : Int))) rfl (fun _ => by kernel_rfl) ?_)
    refine Xg.ops_op (by kernel_rfl) (Xg.opx_pure ((Value.int IntKind.u64 (0 : Int))) rfl (fun _ => by kernel_rfl) ?_)
    refine Xg.ops_op (by kernel_rfl) (Xg.opx_pure ((Value.int IntKind.u64 (0 : Int))) rfl (fun _ => by kernel_rfl) ?_)
    refine Xg.ops_nil ?_
    refine Xg.at_seq ?_
    refine Xg.at_region ?_
    refine Xg.ops_op (by kernel_rfl) (Xg.opx_pure ((Value.int IntKind.u64 (8 : Int))) rfl (fun _ => by kernel_rfl) ?_)
    refine Xg.ops_op (by kernel_rfl) (Xg.opx_pure ((Value.int IntKind.u64 (8 : Int))) rfl (fun _ => by kernel_rfl) ?_)
    refine Xg.ops_op (by kernel_rfl) (Xg.opx_pure ((Value.int IntKind.u64 (8 : Int))) rfl (fun _ => by kernel_rfl) ?_)
    refine Xg.ops_nil ?_
    refine Xg.at_seq ?_
    refine Xg.at_region ?_
    refine Xg.ops_op (by kernel_rfl) (Xg.opx_pure ((Value.int IntKind.u64 (8 : Int))) rfl (fun _ => by kernel_rfl) ?_)
    refine Xg.ops_op (by kernel_rfl) (Xg.opx_pure ((Value.int IntKind.u64 (0 : Int))) rfl (fun _ => by kernel_rfl) ?_)
    refine Xg.ops_op (by kernel_rfl) (Xg.opx_pure ((Value.int IntKind.u64 (0 : Int))) rfl (fun _ => by kernel_rfl) ?_)
    refine Xg.ops_nil ?_
    refine Xg.at_seq ?_
    refine Xg.at_region ?_
    refine Xg.ops_op (by kernel_rfl) (Xg.opx_pure ((Value.int IntKind.u64 (1 : Int))) rfl (fun _ => by kernel_rfl) ?_)
    refine Xg.ops_op (by kernel_rfl) (Xg.opx_pure ((Value.int IntKind.u64 (8 : Int))) rfl (fun _ => by kernel_rfl) ?_)
    refine Xg.ops_op (by kernel_rfl) (Xg.opx_pure ((Value.int IntKind.u64 (8 : Int))) rfl (fun _ => by kernel_rfl) ?_)
    refine Xg.ops_op (by kernel_rfl) (Xg.opx_pure ((Value.int IntKind.u64 (8 : Int))) rfl (fun _ => by kernel_rfl) ?_)
    refine Xg.ops_nil ?_
    refine Xg.at_seq ?_
    refine Xg.at_region ?_
    refine Xg.ops_op (by kernel_rfl) (Xg.opx_pure ((Value.int IntKind.u64 (0 : Int))) rfl (fun _ => by kernel_rfl) ?_)
    refine Xg.ops_op (by kernel_rfl) (Xg.opx_pure ((Value.int IntKind.u64 (8 : Int))) rfl (fun _ => by kernel_rfl) ?_)
    refine Xg.ops_op (by kernel_rfl) (Xg.opx_pure ((Value.int IntKind.u64 (0 : Int))) rfl (fun _ => by kernel_rfl) ?_)
    refine Xg.ops_op (by kernel_rfl) (Xg.opx_pure ((Value.int IntKind.u64 (8 : Int))) rfl (fun _ => by kernel_rfl) ?_)
    refine Xg.ops_op (by kernel_rfl) (Xg.opx_pure ((Value.int IntKind.u64 (0 : Int))) rfl (fun _ => by kernel_rfl) ?_)
    refine Xg.ops_op (by kernel_rfl) (Xg.opx_pure ((Value.int IntKind.u64 (0 : Int))) rfl (fun _ => by kernel_rfl) ?_)
    refine Xg.ops_op (by kernel_rfl) (Xg.opx_pure ((Value.int IntKind.u64 (0 : Int))) rfl (fun _ => by kernel_rfl) ?_)
    refine Xg.ops_nil ?_
    refine Xg.at_seq ?_
    refine Xg.at_region ?_
    refine Xg.ops_op (by kernel_rfl) (Xg.opx_pure ((Value.int IntKind.u64 (0 : Int))) rfl (fun _ => by kernel_rfl) ?_)
    refine Xg.ops_op (by kernel_rfl) (Xg.opx_pure ((Value.int IntKind.u64 (0 : Int))) rfl (fun _ => by kernel_rfl) ?_)
    refine Xg.ops_op (by kernel_rfl) (Xg.opx_pure ((Value.int IntKind.u64 (0 : Int))) rfl (fun _ => by kernel_rfl) ?_)
    refine Xg.ops_nil ?_
    refine Xg.at_seq ?_
    refine Xg.at_region ?_
    refine Xg.ops_op (by kernel_rfl) (Xg.opx_pure ((Value.int IntKind.u64 (0 : Int))) rfl (fun _ => by kernel_rfl) ?_)
    refine Xg.ops_op (by kernel_rfl) (Xg.opx_pure ((Value.int IntKind.u64 (0 : Int))) rfl (fun _ => by kernel_rfl) ?_)
    refine Xg.ops_op (by kernel_rfl) (Xg.opx_pure ((Value.int IntKind.u64 (0 : Int))) rfl (fun _ => by kernel_rfl) ?_)
    refine Xg.ops_nil ?_
    refine Xg.at_seq ?_
    refine Xg.at_region ?_
    refine Xg.ops_op (by kernel_rfl) (Xg.opx_pure ((Value.int IntKind.u64 (0 : Int))) rfl (fun _ => by kernel_rfl) ?_)
    refine Xg.ops_op (by kernel_rfl) (Xg.opx_pure ((Value.int IntKind.u64 (1 : Int))) rfl (fun _ => by kernel_rfl) ?_)
    refine Xg.ops_op (by kernel_rfl) (Xg.opx_pure ((Value.int IntKind.u64 (0 : Int))) rfl (fun _ => by kernel_rfl) ?_)
    refine Xg.ops_op (by kernel_rfl) (Xg.opx_pure ((Value.int IntKind.u64 (0 : Int))) rfl (fun _ => by kernel_rfl) ?_)
    refine Xg.ops_op (by kernel_rfl) (Xg.opx_pure ((Value.int IntKind.u64 (0 : Int))) rfl (fun _ => by kernel_rfl) ?_)
    refine Xg.ops_op (by kernel_rfl) (Xg.opx_pure ((Value.int IntKind.u64 (0 : Int))) rfl (fun _ => by kernel_rfl) ?_)
    refine Xg.ops_nil ?_
    refine Xg.at_seq ?_
    refine Xg.at_region ?_
    refine Xg.ops_op (by kernel_rfl) (Xg.opx_pure ((Value.int IntKind.u64 (0 : Int))) rfl (fun _ => by kernel_rfl) ?_)
    refine Xg.ops_op (by kernel_rfl) (Xg.opx_pure ((Value.int IntKind.u64 (0 : Int))) rfl (fun _ => by kernel_rfl) ?_)
    refine Xg.ops_op (by kernel_rfl) (Xg.opx_pure ((Value.int IntKind.u64 (0 : Int))) rfl (fun _ => by kernel_rfl) ?_)
    refine Xg.ops_op (by kernel_rfl) (Xg.opx_pure ((Value.int IntKind.u64 (0 : Int))) rfl (fun _ => by kernel_rfl) ?_)
    refine Xg.ops_op (by kernel_rfl) (Xg.opx_pure ((Value.int IntKind.u64 (0 : Int))) rfl (fun _ => by kernel_rfl) ?_)
    refine Xg.ops_op (by kernel_rfl) (Xg.opx_pure ((Value.int IntKind.u64 (0 : Int))) rfl (fun _ => by kernel_rfl) ?_)
    refine Xg.ops_op (by kernel_rfl) (Xg.opx_pure ((Value.int IntKind.u64 (0 : Int))) rfl (fun _ => by kernel_rfl) ?_)
    refine Xg.ops_op (by kernel_rfl) (Xg.opx_pure ((Value.int IntKind.u64 (0 : Int))) rfl (fun _ => by kernel_rfl) ?_)
    refine Xg.ops_op (by kernel_rfl) (Xg.opx_pure ((Value.int IntKind.u64 (0 : Int))) rfl (fun _ => by kernel_rfl) ?_)
    refine Xg.ops_nil ?_
    refine Xg.at_seq ?_
    refine Xg.at_region ?_
    refine Xg.ops_op (by kernel_rfl) (Xg.opx_pure ((Value.int IntKind.u64 (1 : Int))) rfl (fun _ => by kernel_rfl) ?_)
    refine Xg.ops_op (by kernel_rfl) (Xg.opx_pure ((Value.int IntKind.u64 (8 : Int))) rfl (fun _ => by kernel_rfl) ?_)
    refine Xg.ops_op (by kernel_rfl) (Xg.opx_pure ((Value.int IntKind.u64 (8 : Int))) rfl (fun _ => by kernel_rfl) ?_)
    refine Xg.ops_op (by kernel_rfl) (Xg.opx_pure ((Value.int IntKind.u64 (8 : Int))) rfl (fun _ => by kernel_rfl) ?_)
    refine Xg.ops_nil ?_
    refine Xg.at_ret_ps (v := (Value.tuple #[Value.int IntKind.u64 (0 : Int), Value.int IntKind.u64 (8 : Int)])) [] [] Go.Proofs.Try.func47 (fun _ => by kernel_rfl) (by kernel_rfl) (by kernel_rfl) ?_
    exact ⟨by kernel_rfl, by kernel_rfl⟩)
theorem mul_8 : Does Try.prog 45 [.int .u64 1, .int .u64 8] [] (Ret (.tuple #[.int .u64 0, .int .u64 8]) []) := by
  (focus
    refine Xg.spec_of Go.Proofs.Try.func45 rfl Go.Proofs.Try.ntmps45 fun g F => ?_)
  (focus
    refine Xg.at_seq ?_
    refine Xg.at_region ?_
    refine Xg.ops_op (by kernel_rfl) (Xg.opx_pure ((Value.int IntKind.u64 (0 : Int))) rfl (fun _ => by kernel_rfl) ?_)
    refine Xg.ops_op (by kernel_rfl) (Xg.opx_pure ((Value.int IntKind.u64 (0 : Int))) rfl (fun _ => by kernel_rfl) ?_)
    refine Xg.ops_nil ?_
    refine Xg.at_seq ?_
    refine Xg.at_false (t := false) (by kernel_rfl) rfl ?_
    refine Xg.at_skip ?_
    refine Xg.at_seq ?_
    refine Xg.at_region ?_
    refine Xg.ops_op (by kernel_rfl) (Xg.opx_pure ((Value.int IntKind.u64 (1 : Int))) rfl (fun _ => by kernel_rfl) ?_)
    refine Xg.ops_op (by kernel_rfl) (Xg.opx_pure ((Value.int IntKind.u64 (8 : Int))) rfl (fun _ => by kernel_rfl) ?_)
    refine Xg.ops_op (by kernel_rfl) (Xg.opx_call1' [] [] (fun _ => by kernel_rfl) (@Go.Proofs.Ytijjficnhpokdaa.mul64_8 ) (by kernel_rfl) (by kernel_rfl) (by kernel_rfl) ?_)
    refine Xg.ops_op (by kernel_rfl) (Xg.opx_pure ((Value.tuple #[Value.int IntKind.u64 (0 : Int), Value.int IntKind.u64 (8 : Int)])) rfl (fun _ => by kernel_rfl) ?_)
    refine Xg.ops_op (by kernel_rfl) (Xg.opx_pure ((Value.int IntKind.u64 (0 : Int))) rfl (fun _ => by kernel_rfl) ?_)
    refine Xg.ops_op (by kernel_rfl) (Xg.opx_pure ((Value.int IntKind.u64 (8 : Int))) rfl (fun _ => by kernel_rfl) ?_)
    refine Xg.ops_op (by kernel_rfl) (Xg.opx_pure ((Value.int IntKind.u64 (0 : Int))) rfl (fun _ => by kernel_rfl) ?_)
    refine Xg.ops_op (by kernel_rfl) (Xg.opx_pure ((Value.int IntKind.u64 (8 : Int))) rfl (fun _ => by kernel_rfl) ?_)
    refine Xg.ops_nil ?_
    refine Xg.at_seq ?_
    refine Xg.at_region ?_
    refine Xg.ops_op (by kernel_rfl) (Xg.opx_pure ((Value.int IntKind.u64 (0 : Int))) rfl (fun _ => by kernel_rfl) ?_)
    refine Xg.ops_op (by kernel_rfl) (Xg.opx_pure ((Value.int IntKind.u64 (8 : Int))) rfl (fun _ => by kernel_rfl) ?_)
    refine Xg.ops_op (by kernel_rfl) (Xg.opx_pure ((Value.int IntKind.u64 (0 : Int))) rfl (fun _ => by kernel_rfl) ?_)
    refine Xg.ops_op (by kernel_rfl) (Xg.opx_pure ((Value.int IntKind.u64 (8 : Int))) rfl (fun _ => by kernel_rfl) ?_)
    refine Xg.ops_nil ?_
    refine Xg.at_ret_ps (v := (Value.tuple #[Value.int IntKind.u64 (0 : Int), Value.int IntKind.u64 (8 : Int)])) [] [] Go.Proofs.Try.func45 (fun _ => by kernel_rfl) (by kernel_rfl) (by kernel_rfl) ?_
    exact ⟨by kernel_rfl, by kernel_rfl⟩)
theorem repeat_8 (b : Nat) : Does Try.prog 39 [.slice (some ⟨b, 0, none⟩) 1 1, .int .i64 8] [row b 3 [.int .i64 (-1)]]
    (RetE (fun x : Option Addr × Nat => True) (fun x => .slice x.1 8 x.2) (fun x => [ints 3 .i64 x.1 x.2 [-1, -1, -1, -1, -1, -1, -1, -1]])) := by
  (focus
    refine Xg.spec_of Go.Proofs.Try.func39 rfl Go.Proofs.Try.ntmps39 fun g F => ?_)
  (focus
    refine Xg.at_seq ?_
    refine Xg.at_region ?_
    refine Xg.ops_op (by kernel_rfl) (Xg.opx_pure ((Value.slice none (0 : Nat) (0 : Nat))) rfl (fun _ => by kernel_rfl) ?_)
    refine Xg.ops_nil ?_
    refine Xg.at_seq ?_
    refine Xg.at_seq ?_
    refine Xg.at_region ?_
    refine Xg.ops_op (by kernel_rfl) (Xg.opx_pure ((iv 8)) rfl (fun _ => by kernel_rfl) ?_)
    refine Xg.ops_op (by kernel_rfl) (Xg.opx_pure ((Value.bool false)) rfl (fun _ => by kernel_rfl) ?_)
    refine Xg.ops_nil ?_
    refine Xg.at_false (t := false) (by kernel_rfl) rfl ?_
    refine Xg.at_skip ?_
    refine Xg.at_seq ?_
    refine Xg.at_region ?_
    refine Xg.ops_op (by kernel_rfl) (Xg.opx_pure ((Value.slice (some (Addr.mk b (0 : Nat) none)) (1 : Nat) (1 : Nat))) rfl (fun _ => by kernel_rfl) ?_)
    refine Xg.ops_op (by kernel_rfl) (Xg.opx_pure ((iv 1)) rfl (fun _ => by kernel_rfl) ?_)
    refine Xg.ops_op (by kernel_rfl) (Xg.opx_pure (.int .u64 ((1 : Int))) rfl (fun _ => by kernel_rfl) ?_)
    refine Xg.ops_op (by kernel_rfl) (Xg.opx_pure ((iv 8)) rfl (fun _ => by kernel_rfl) ?_)
    refine Xg.ops_op (by kernel_rfl) (Xg.opx_pure (.int .u64 ((8 : Int))) rfl (fun _ => by kernel_rfl) ?_)
    refine Xg.ops_op (by kernel_rfl) (Xg.opx_call1' [] [row b (3 : TypeId) [iv (-1)]] (fun _ => by kernel_rfl) (@Go.Proofs.Ytijjficnhpokdaa.mul_8 ) (by kernel_rfl) (by kernel_rfl) (by kernel_rfl) ?_)
    refine Xg.ops_op (by kernel_rfl) (Xg.opx_pure ((Value.tuple #[Value.int IntKind.u64 (0 : Int), Value.int IntKind.u64 (8 : Int)])) rfl (fun _ => by kernel_rfl) ?_)
    refine Xg.ops_op (by kernel_rfl) (Xg.opx_pure ((Value.int IntKind.u64 (0 : Int))) rfl (fun _ => by kernel_rfl) ?_)
    refine Xg.ops_op (by kernel_rfl) (Xg.opx_pure ((Value.int IntKind.u64 (8 : Int))) rfl (fun _ => by kernel_rfl) ?_)
    refine Xg.ops_op (by kernel_rfl) (Xg.opx_pure ((Value.int IntKind.u64 (0 : Int))) rfl (fun _ => by kernel_rfl) ?_)
    refine Xg.ops_op (by kernel_rfl) (Xg.opx_pure ((Value.int IntKind.u64 (8 : Int))) rfl (fun _ => by kernel_rfl) ?_)
    refine Xg.ops_nil ?_
    refine Xg.at_seq ?_
    refine Xg.at_seq ?_
    refine Xg.at_region ?_
    refine Xg.ops_op (by kernel_rfl) (Xg.opx_pure ((Value.int IntKind.u64 (0 : Int))) rfl (fun _ => by kernel_rfl) ?_)
    refine Xg.ops_op (by kernel_rfl) (Xg.opx_pure ((Value.bool false)) rfl (fun _ => by kernel_rfl) ?_)
    refine Xg.ops_op (by kernel_rfl) (Xg.opx_pure ((Value.bool false)) rfl (fun _ => by kernel_rfl) ?_)
    refine Xg.ops_op (by kernel_rfl) (Xg.opx_pure ((Value.int IntKind.u64 (8 : Int))) rfl (fun _ => by kernel_rfl) ?_)
    refine Xg.ops_op (by kernel_rfl) (Xg.opx_pure ((Value.bool false)) rfl (fun _ => by kernel_rfl) ?_)
    refine Xg.ops_op (by kernel_rfl) (Xg.opx_pure ((Value.bool false)) rfl (fun _ => by kernel_rfl) ?_)
    refine Xg.ops_nil ?_
    refine Xg.at_false (t := false) (by kernel_rfl) rfl ?_
    refine Xg.at_skip ?_
    refine Xg.at_seq ?_
    refine Xg.at_region ?_
    refine Xg.ops_op (by kernel_rfl) (Xg.opx_pure ((Value.int IntKind.u64 (8 : Int))) rfl (fun _ => by kernel_rfl) ?_)
    refine Xg.ops_op (by kernel_rfl) (Xg.opx_pure (.int .i64 ((8 : Int))) rfl (fun _ => by kernel_rfl) ?_)
    refine Xg.ops_op (by kernel_rfl) (Xg.opx_make_ints (elem := 3) (kd := .i64) (by_ := 8) (k1 := .i64) (k2 := .i64) (n := ((8 : Int))) (c := ((8 : Int))) ((8 : Nat)) ((8 : Nat)) [(0 : Int), (0 : Int), (0 : Int), (0 : Int), (0 : Int), (0 : Int), (0 : Int), (0 : Int)] (by kernel_rfl) (by kernel_rfl) (by kernel_rfl) (by kernel_rfl) rfl rfl (by omega) (by omega) (by first | rfl | (simp; done)) fun xa1 xh1 => ?_)
    have xl1 : ([(0 : Int), (0 : Int), (0 : Int), (0 : Int), (0 : Int), (0 : Int), (0 : Int), (0 : Int)] : List Int).length = ((8 : Nat)) := by first | rfl | (simp; done)
    refine Xg.ops_op (by kernel_rfl) (Xg.opx_pure ((Value.slice xa1 (8 : Nat) (8 : Nat))) rfl (fun _ => by kernel_rfl) ?_)
    refine Xg.ops_nil ?_
    refine Xg.at_seq ?_
    refine Xg.at_region ?_
    refine Xg.ops_op (by kernel_rfl) (Xg.opx_pure ((Value.slice xa1 (8 : Nat) (8 : Nat))) rfl (fun _ => by kernel_rfl) ?_)
    refine Xg.ops_op (by kernel_rfl) (Xg.opx_pure ((Value.slice (some (Addr.mk b (0 : Nat) none)) (1 : Nat) (1 : Nat))) rfl (fun _ => by kernel_rfl) ?_))
  refine Xg.ops_op (by kernel_rfl) (Xg.opx_copy_in (elem := 3) (xs := [0, 0, 0, 0, 0, 0, 0, 0]) (ys := [-1]) (yv := .slice (some ⟨b, 0, none⟩) 1 1) (cx := 8) 0 8 0 8 [-1, 0, 0, 0, 0, 0, 0, 0] 1 rfl (by kernel_rfl) (by kernel_rfl) (by kernel_rfl) (fun b e => e) (by kernel_rfl) (fun w hS => by exact row_rd hS 1 rfl rfl) (by decide) (by decide) rfl rfl rfl ?_)
  (focus
    refine Xg.ops_op (by kernel_rfl) (Xg.opx_pure ((iv 1)) rfl (fun _ => by kernel_rfl) ?_)
    refine Xg.ops_nil ?_
    refine Xg.at_seq ?_
    refine Xg.at_block ?_
    refine Xg.at_loop ?_
    refine Xg.at_seq ?_
    refine Xg.at_seq ?_
    refine Xg.at_region ?_
    refine Xg.ops_op (by kernel_rfl) (Xg.opx_pure ((iv 1)) rfl (fun _ => by kernel_rfl) ?_)
    refine Xg.ops_op (by kernel_rfl) (Xg.opx_pure ((Value.slice xa1 (8 : Nat) (8 : Nat))) rfl (fun _ => by kernel_rfl) ?_)
    refine Xg.ops_op (by kernel_rfl) (Xg.opx_pure ((iv 8)) rfl (fun _ => by kernel_rfl) ?_)
    refine Xg.ops_op (by kernel_rfl) (Xg.opx_pure ((Value.bool true)) rfl (fun _ => by kernel_rfl) ?_)
    refine Xg.ops_nil ?_
    refine Xg.at_true (t := true) (by kernel_rfl) rfl ?_
    refine Xg.at_skip ?_
    refine Xg.at_block ?_
    refine Xg.at_draw [7] [] (by kernel_rfl) ?_
    refine Xg.any_pure ((iv 1)) 0 (by kernel_rfl) rfl (by kernel_rfl) (by kernel_rfl) (by kernel_rfl) (by kernel_rfl) rfl (fun _ => by kernel_rfl) ?_
    refine Xg.any_pure ((Value.slice xa1 (8 : Nat) (8 : Nat))) 1 (by kernel_rfl) rfl (by kernel_rfl) (by kernel_rfl) (by kernel_rfl) (by kernel_rfl) rfl (fun _ => by kernel_rfl) ?_
    refine Xg.any_pure ((iv 1)) 2 (by kernel_rfl) rfl (by kernel_rfl) (by kernel_rfl) (by kernel_rfl) (by kernel_rfl) rfl (fun _ => by kernel_rfl) ?_
    refine Xg.any_pure (.slice (Xg.subA xa1 ((8 : Nat)) ((1 : Nat)) 1) (((8 : Nat)) - ((1 : Nat))) (((8 : Nat)) - ((1 : Nat)))) 3 (by kernel_rfl) rfl (by kernel_rfl) (by kernel_rfl) (by kernel_rfl) (by kernel_rfl) rfl (Xg.run_sl_lo (elem := 3) (a := xa1) (c := ((8 : Nat))) (len := ((8 : Nat))) (k1 := .i64) (e1 := ((1 : Int))) 1 ((1 : Nat)) (by kernel_rfl) (by kernel_rfl) (by kernel_rfl) (by kernel_rfl) rfl (by omega)) ?_
    refine Xg.any_pure ((Value.slice xa1 (8 : Nat) (8 : Nat))) 4 (by kernel_rfl) rfl (by kernel_rfl) (by kernel_rfl) (by kernel_rfl) (by kernel_rfl) rfl (fun _ => by kernel_rfl) ?_
    refine Xg.any_pure ((iv 1)) 5 (by kernel_rfl) rfl (by kernel_rfl) (by kernel_rfl) (by kernel_rfl) (by kernel_rfl) rfl (fun _ => by kernel_rfl) ?_
    refine Xg.any_pure (.slice xa1 ((1 : Nat)) ((8 : Nat))) 6 (by kernel_rfl) rfl (by kernel_rfl) (by kernel_rfl) (by kernel_rfl) (by kernel_rfl) rfl (Xg.run_sl_hi (elem := 3) (a := xa1) (c := ((8 : Nat))) (len := ((8 : Nat))) (k2 := .i64) (e2 := ((1 : Int))) 1 ((1 : Nat)) (by kernel_rfl) (by kernel_rfl) (by kernel_rfl) (by kernel_rfl) rfl (by omega)) ?_)
  refine Xg.any_each [7] (by kernel_rfl) rfl ⟨?_, trivial⟩
  refine Xg.comes_act rfl (by kernel_rfl) (by kernel_rfl) (Xg.opx_copy_in (elem := 3) (xs := [-1, 0, 0, 0, 0, 0, 0, 0]) (ys := [-1]) (yv := .slice xa1 1 8) (a := xa1) (c := 8) (ax := Xg.subA xa1 8 1 1) (cx := 7) 0 8 1 7 [-1, -1, 0, 0, 0, 0, 0, 0] 1 rfl (by kernel_rfl) (by kernel_rfl) (by kernel_rfl) (fun b e => by rw [e]; exact sub_at (by decide)) (by kernel_rfl) (fun w hS => by exact reads_rd (reads_hi (E := 3) (n := 8) (c := 8) (a := xa1) (sz := 1) (vs := ([-1, 0, 0, 0, 0, 0, 0, 0] : List Int).map (Value.int .i64)) 1 (by decide)) 0 rfl hS) (by decide) (by decide) rfl rfl rfl ?_)
  refine Xg.acts Xg.owes_nil ?_
  (focus
    refine Xg.any_pure ((iv 2)) 8 (by kernel_rfl) rfl (by kernel_rfl) (by kernel_rfl) (by kernel_rfl) (by kernel_rfl) rfl (fun _ => by kernel_rfl) ?_
    refine Xg.any_pure ((iv 2)) 9 (by kernel_rfl) rfl (by kernel_rfl) (by kernel_rfl) (by kernel_rfl) (by kernel_rfl) rfl (fun _ => by kernel_rfl) ?_
    refine Xg.any_nil (by kernel_rfl) ?_
    refine Xg.at_inBlock ?_
    refine Xg.at_inLoop ?_
    refine Xg.at_seq ?_
    refine Xg.at_seq ?_
    refine Xg.at_region ?_
    refine Xg.ops_op (by kernel_rfl) (Xg.opx_pure ((iv 2)) rfl (fun _ => by kernel_rfl) ?_)
    refine Xg.ops_op (by kernel_rfl) (Xg.opx_pure ((Value.slice xa1 (8 : Nat) (8 : Nat))) rfl (fun _ => by kernel_rfl) ?_)
    refine Xg.ops_op (by kernel_rfl) (Xg.opx_pure ((iv 8)) rfl (fun _ => by kernel_rfl) ?_)
    refine Xg.ops_op (by kernel_rfl) (Xg.opx_pure ((Value.bool true)) rfl (fun _ => by kernel_rfl) ?_)
    refine Xg.ops_nil ?_
    refine Xg.at_true (t := true) (by kernel_rfl) rfl ?_
    refine Xg.at_skip ?_
    refine Xg.at_block ?_
    refine Xg.at_draw [7] [] (by kernel_rfl) ?_
    refine Xg.any_pure ((iv 2)) 0 (by kernel_rfl) rfl (by kernel_rfl) (by kernel_rfl) (by kernel_rfl) (by kernel_rfl) rfl (fun _ => by kernel_rfl) ?_
    refine Xg.any_pure ((Value.slice xa1 (8 : Nat) (8 : Nat))) 1 (by kernel_rfl) rfl (by kernel_rfl) (by kernel_rfl) (by kernel_rfl) (by kernel_rfl) rfl (fun _ => by kernel_rfl) ?_
    refine Xg.any_pure ((iv 2)) 2 (by kernel_rfl) rfl (by kernel_rfl) (by kernel_rfl) (by kernel_rfl) (by kernel_rfl) rfl (fun _ => by kernel_rfl) ?_
    refine Xg.any_pure (.slice (Xg.subA xa1 ((8 : Nat)) ((2 : Nat)) 1) (((8 : Nat)) - ((2 : Nat))) (((8 : Nat)) - ((2 : Nat)))) 3 (by kernel_rfl) rfl (by kernel_rfl) (by kernel_rfl) (by kernel_rfl) (by kernel_rfl) rfl (Xg.run_sl_lo (elem := 3) (a := xa1) (c := ((8 : Nat))) (len := ((8 : Nat))) (k1 := .i64) (e1 := ((2 : Int))) 1 ((2 : Nat)) (by kernel_rfl) (by kernel_rfl) (by kernel_rfl) (by kernel_rfl) rfl (by omega)) ?_
    refine Xg.any_pure ((Value.slice xa1 (8 : Nat) (8 : Nat))) 4 (by kernel_rfl) rfl (by kernel_rfl) (by kernel_rfl) (by kernel_rfl) (by kernel_rfl) rfl (fun _ => by kernel_rfl) ?_
    refine Xg.any_pure ((iv 2)) 5 (by kernel_rfl) rfl (by kernel_rfl) (by kernel_rfl) (by kernel_rfl) (by kernel_rfl) rfl (fun _ => by kernel_rfl) ?_
    refine Xg.any_pure (.slice xa1 ((2 : Nat)) ((8 : Nat))) 6 (by kernel_rfl) rfl (by kernel_rfl) (by kernel_rfl) (by kernel_rfl) (by kernel_rfl) rfl (Xg.run_sl_hi (elem := 3) (a := xa1) (c := ((8 : Nat))) (len := ((8 : Nat))) (k2 := .i64) (e2 := ((2 : Int))) 1 ((2 : Nat)) (by kernel_rfl) (by kernel_rfl) (by kernel_rfl) (by kernel_rfl) rfl (by omega)) ?_)
  refine Xg.any_each [7] (by kernel_rfl) rfl ⟨?_, trivial⟩
  refine Xg.comes_act rfl (by kernel_rfl) (by kernel_rfl) (Xg.opx_copy_in (elem := 3) (xs := [-1, -1, 0, 0, 0, 0, 0, 0]) (ys := [-1, -1]) (yv := .slice xa1 2 8) (a := xa1) (c := 8) (ax := Xg.subA xa1 8 2 1) (cx := 6) 0 8 2 6 [-1, -1, -1, -1, 0, 0, 0, 0] 2 rfl (by kernel_rfl) (by kernel_rfl) (by kernel_rfl) (fun b e => by rw [e]; exact sub_at (by decide)) (by kernel_rfl) (fun w hS => by exact reads_rd (reads_hi (E := 3) (n := 8) (c := 8) (a := xa1) (sz := 1) (vs := ([-1, -1, 0, 0, 0, 0, 0, 0] : List Int).map (Value.int .i64)) 2 (by decide)) 0 rfl hS) (by decide) (by decide) rfl rfl rfl ?_)
  refine Xg.acts Xg.owes_nil ?_
  (focus
    refine Xg.any_pure ((iv 4)) 8 (by kernel_rfl) rfl (by kernel_rfl) (by kernel_rfl) (by kernel_rfl) (by kernel_rfl) rfl (fun _ => by kernel_rfl) ?_
    refine Xg.any_pure ((iv 4)) 9 (by kernel_rfl) rfl (by kernel_rfl) (by kernel_rfl) (by kernel_rfl) (by kernel_rfl) rfl (fun _ => by kernel_rfl) ?_
    refine Xg.any_nil (by kernel_rfl) ?_
    refine Xg.at_inBlock ?_
    refine Xg.at_inLoop ?_
    refine Xg.at_seq ?_
    refine Xg.at_seq ?_
    refine Xg.at_region ?_
    refine Xg.ops_op (by kernel_rfl) (Xg.opx_pure ((iv 4)) rfl (fun _ => by kernel_rfl) ?_)
    refine Xg.ops_op (by kernel_rfl) (Xg.opx_pure ((Value.slice xa1 (8 : Nat) (8 : Nat))) rfl (fun _ => by kernel_rfl) ?_)
    refine Xg.ops_op (by kernel_rfl) (Xg.opx_pure ((iv 8)) rfl (fun _ => by kernel_rfl) ?_)
    refine Xg.ops_op (by kernel_rfl) (Xg.opx_pure ((Value.bool true)) rfl (fun _ => by kernel_rfl) ?_)
    refine Xg.ops_nil ?_
    refine Xg.at_true (t := true) (by kernel_rfl) rfl ?_
    refine Xg.at_skip ?_
    refine Xg.at_block ?_
    refine Xg.at_draw [7] [] (by kernel_rfl) ?_
    refine Xg.any_pure ((iv 4)) 0 (by kernel_rfl) rfl (by kernel_rfl) (by kernel_rfl) (by kernel_rfl) (by kernel_rfl) rfl (fun _ => by kernel_rfl) ?_
    refine Xg.any_pure ((Value.slice xa1 (8 : Nat) (8 : Nat))) 1 (by kernel_rfl) rfl (by kernel_rfl) (by kernel_rfl) (by kernel_rfl) (by kernel_rfl) rfl (fun _ => by kernel_rfl) ?_
    refine Xg.any_pure ((iv 4)) 2 (by kernel_rfl) rfl (by kernel_rfl) (by kernel_rfl) (by kernel_rfl) (by kernel_rfl) rfl (fun _ => by kernel_rfl) ?_
    refine Xg.any_pure (.slice (Xg.subA xa1 ((8 : Nat)) ((4 : Nat)) 1) (((8 : Nat)) - ((4 : Nat))) (((8 : Nat)) - ((4 : Nat)))) 3 (by kernel_rfl) rfl (by kernel_rfl) (by kernel_rfl) (by kernel_rfl) (by kernel_rfl) rfl (Xg.run_sl_lo (elem := 3) (a := xa1) (c := ((8 : Nat))) (len := ((8 : Nat))) (k1 := .i64) (e1 := ((4 : Int))) 1 ((4 : Nat)) (by kernel_rfl) (by kernel_rfl) (by kernel_rfl) (by kernel_rfl) rfl (by omega)) ?_
    refine Xg.any_pure ((Value.slice xa1 (8 : Nat) (8 : Nat))) 4 (by kernel_rfl) rfl (by kernel_rfl) (by kernel_rfl) (by kernel_rfl) (by kernel_rfl) rfl (fun _ => by kernel_rfl) ?_
    refine Xg.any_pure ((iv 4)) 5 (by kernel_rfl) rfl (by kernel_rfl) (by kernel_rfl) (by kernel_rfl) (by kernel_rfl) rfl (fun _ => by kernel_rfl) ?_
    refine Xg.any_pure (.slice xa1 ((4 : Nat)) ((8 : Nat))) 6 (by kernel_rfl) rfl (by kernel_rfl) (by kernel_rfl) (by kernel_rfl) (by kernel_rfl) rfl (Xg.run_sl_hi (elem := 3) (a := xa1) (c := ((8 : Nat))) (len := ((8 : Nat))) (k2 := .i64) (e2 := ((4 : Int))) 1 ((4 : Nat)) (by kernel_rfl) (by kernel_rfl) (by kernel_rfl) (by kernel_rfl) rfl (by omega)) ?_)
  refine Xg.any_each [7] (by kernel_rfl) rfl ⟨?_, trivial⟩
  refine Xg.comes_act rfl (by kernel_rfl) (by kernel_rfl) (Xg.opx_copy_in (elem := 3) (xs := [-1, -1, -1, -1, 0, 0, 0, 0]) (ys := [-1, -1, -1, -1]) (yv := .slice xa1 4 8) (a := xa1) (c := 8) (ax := Xg.subA xa1 8 4 1) (cx := 4) 0 8 4 4 [-1, -1, -1, -1, -1, -1, -1, -1] 4 rfl (by kernel_rfl) (by kernel_rfl) (by kernel_rfl) (fun b e => by rw [e]; exact sub_at (by decide)) (by kernel_rfl) (fun w hS => by exact reads_rd (reads_hi (E := 3) (n := 8) (c := 8) (a := xa1) (sz := 1) (vs := ([-1, -1, -1, -1, 0, 0, 0, 0] : List Int).map (Value.int .i64)) 4 (by decide)) 0 rfl hS) (by decide) (by decide) rfl rfl rfl ?_)
  refine Xg.acts Xg.owes_nil ?_
  (focus
    refine Xg.any_pure ((iv 8)) 8 (by kernel_rfl) rfl (by kernel_rfl) (by kernel_rfl) (by kernel_rfl) (by kernel_rfl) rfl (fun _ => by kernel_rfl) ?_
    refine Xg.any_pure ((iv 8)) 9 (by kernel_rfl) rfl (by kernel_rfl) (by kernel_rfl) (by kernel_rfl) (by kernel_rfl) rfl (fun _ => by kernel_rfl) ?_
    refine Xg.any_nil (by kernel_rfl) ?_
    refine Xg.at_inBlock ?_
    refine Xg.at_inLoop ?_
    refine Xg.at_seq ?_
    refine Xg.at_seq ?_
    refine Xg.at_region ?_
    refine Xg.ops_op (by kernel_rfl) (Xg.opx_pure ((iv 8)) rfl (fun _ => by kernel_rfl) ?_)
    refine Xg.ops_op (by kernel_rfl) (Xg.opx_pure ((Value.slice xa1 (8 : Nat) (8 : Nat))) rfl (fun _ => by kernel_rfl) ?_)
    refine Xg.ops_op (by kernel_rfl) (Xg.opx_pure ((iv 8)) rfl (fun _ => by kernel_rfl) ?_)
    refine Xg.ops_op (by kernel_rfl) (Xg.opx_pure ((Value.bool false)) rfl (fun _ => by kernel_rfl) ?_)
    refine Xg.ops_nil ?_
    refine Xg.at_false (t := false) (by kernel_rfl) rfl ?_
    refine Xg.at_exit rfl ?_
    refine Xg.at_seq ?_
    refine Xg.at_region ?_
    refine Xg.ops_op (by kernel_rfl) (Xg.opx_pure ((Value.slice xa1 (8 : Nat) (8 : Nat))) rfl (fun _ => by kernel_rfl) ?_)
    refine Xg.ops_op (by kernel_rfl) (Xg.opx_pure ((Value.slice xa1 (8 : Nat) (8 : Nat))) rfl (fun _ => by kernel_rfl) ?_)
    refine Xg.ops_nil ?_
    refine Xg.at_ret_ps (v := (Value.slice xa1 (8 : Nat) (8 : Nat))) [0] [ints (3 : TypeId) IntKind.i64 xa1 (8 : Nat) [(-1 : Int), (-1 : Int), (-1 : Int), (-1 : Int), (-1 : Int), (-1 : Int), (-1 : Int), (-1 : Int)]] Go.Proofs.Try.func39 (fun _ => by kernel_rfl) (by kernel_rfl) (by kernel_rfl) ?_
    refine ⟨((xa1, (8 : Nat))), trivial, by kernel_rfl, by kernel_rfl⟩)

theorem repeat_d (b k : Nat) (h1 : 1 ≤ k) (h8 : k ≤ 8) : Does Try.prog 39 [.slice (some ⟨b, 0, none⟩) 1 1, .int .i64 (k : Nat)] [row b 3 [.int .i64 (-1)]]
    (RetE (fun x : Option Addr × Nat => True) (fun x => .slice x.1 (List.replicate k (-1 : Int)).length x.2) (fun x => [ints 3 .i64 x.1 x.2 (List.replicate k (-1))])) := by
  have : k = 1 ∨ k = 2 ∨ k = 3 ∨ k = 4 ∨ k = 5 ∨ k = 6 ∨ k = 7 ∨ k = 8 := by omega
  rcases this with e | e | e | e | e | e | e | e <;> subst e
  · exact repeat_1 b
  · exact repeat_2 b
  · exact repeat_3 b
  · exact repeat_4 b
  · exact repeat_5 b
  · exact repeat_6 b
  · exact repeat_7 b
  · exact repeat_8 b
end Go.Proofs.Ytijjficnhpokdaa

/- The sched package: what is asked of a Sched. -/
namespace Go.Proofs.Ytijjficnhpokdaa
open Go.Sl Go.Xg
set_option linter.unusedVariables false
set_option linter.unusedSimpArgs false
set_option maxHeartbeats 4000000
set_option maxRecDepth 100000

/-- A Sched: its round, its slots. -/
def SchedP (p : Nat) (r : List (Int × Bool)) (s : List Int) : HP := fun m => ∃ (ra : Option Addr) (rc : Nat) (sa : Option Addr) (sc : Nat), seps [HdP p ra r.length rc sa s.length sc, RP ra rc r, SP sa sc s] m

theorem sched_open {p : Nat} {r : List (Int × Bool)} {s : List Int} {g w : World} {L : List HP} (h : SL g (SchedP p r s :: L) w) : ∃ ra rc sa sc, SL g (HdP p ra r.length rc sa s.length sc :: RP ra rc r :: SP sa sc s :: L) w := by
  obtain ⟨ra, h⟩ := SL.ex.1 h
  obtain ⟨rc, h⟩ := SL.ex.1 h
  obtain ⟨sa, h⟩ := SL.ex.1 h
  obtain ⟨sc, h⟩ := SL.ex.1 h
  exact ⟨ra, rc, sa, sc, SL.flat.1 h⟩
theorem sched_shut {p : Nat} {r : List (Int × Bool)} {s : List Int} {g w : World} {L : List HP} {ra rc sa sc} (h : SL g (HdP p ra r.length rc sa s.length sc :: RP ra rc r :: SP sa sc s :: L) w) : SL g (SchedP p r s :: L) w :=
  SL.ex.2 ⟨ra, SL.ex.2 ⟨rc, SL.ex.2 ⟨sa, SL.ex.2 ⟨sc, SL.flat.2 h⟩⟩⟩⟩
theorem closed {f : FuncId} {args : List Value} {V : Value} {p : Nat} {r r' : List (Int × Bool)} {s s' : List Int}
    (h : ∀ ra rc sa sc, Does Try.prog f args [HdP p ra r.length rc sa s.length sc, RP ra rc r, SP sa sc s] (RetE (fun x : Option Addr × Nat => True) (fun _ => V) (fun x => [HdP p x.1 r'.length x.2 sa s'.length sc, RP x.1 x.2 r', SP sa sc s']))) :
    Does Try.prog f args [SchedP p r s] (Ret V [SchedP p r' s']) := by
  constructor
  intro g F w hS
  obtain ⟨ra, rc, sa, sc, hS⟩ := sched_open hS
  intro cs
  obtain ⟨e, w', fr, ⟨v, ps, ⟨x, _, rfl, rfl⟩, rfl, h2⟩, h3⟩ := (h ra rc sa sc).run g F w hS cs
  exact ⟨_, w', fr, ⟨_, _, ⟨rfl, rfl⟩, rfl, sched_shut h2⟩, h3⟩

def addE (id : Int) (r : List (Int × Bool)) : Int := if id < 0 then 1 else if 0 ≤ at_ id r then 132 else if r.length = 64 then 133 else 0
def addR (id : Int) (r : List (Int × Bool)) : List (Int × Bool) := if addE id r = 0 then r ++ [(id, false)] else r

theorem add_d (p : Nat) (r : List (Int × Bool)) (s : List Int) (id : Int) (h64 : r.length ≤ 64) : Does Try.prog 22 [.pointer (some ⟨p, 0, none⟩), .int .i64 id] [SchedP p r s] (Ret (.int .i64 (addE id r)) [SchedP p (addR id r) s]) := by
  refine closed fun ra rc sa sc => ?_
  have hf := find_d p ra sa rc s.length sc r (SP sa sc s) id
  unfold addR addE
  obtain ⟨n, hn⟩ : ∃ n, at_ id r = n := ⟨_, rfl⟩
  rw [hn] at hf ⊢
  by_cases c1 : id < 0
  · simp only [if_pos c1]
    rw [if_neg (by decide)]
    (focus
      refine Xg.spec_of Go.Proofs.Try.func22 rfl Go.Proofs.Try.ntmps22 fun g F => ?_)
    (focus
      refine Xg.at_seq ?_
      refine Xg.at_region ?_
      refine Xg.ops_op (by kernel_rfl) (Xg.opx_pure ((iv 0)) rfl (fun _ => by kernel_rfl) ?_)
      refine Xg.ops_nil ?_
      refine Xg.at_seq ?_
      refine Xg.at_block ?_
      refine Xg.at_seq ?_
      refine Xg.at_region ?_
      refine Xg.ops_op (by kernel_rfl) (Xg.opx_pure ((iv id)) rfl (fun _ => by kernel_rfl) ?_)
      refine Xg.ops_op (by kernel_rfl) (Xg.opx_pure (.bool (decide ((id : Int) < ((0 : Int))))) rfl (fun _ => by kernel_rfl) ?_)
      refine Xg.ops_op (by kernel_rfl) (Xg.opx_pure ((Value.bool (decide (id < (0 : Int))))) rfl (fun _ => by kernel_rfl) ?_)
      refine Xg.ops_nil ?_
      refine Xg.at_true (t := decide ((id < (0 : Int)))) (by kernel_rfl) (decide_eq_true (by omega)) ?_
      refine Xg.at_seq ?_
      refine Xg.at_region ?_
      refine Xg.ops_op (by kernel_rfl) (Xg.opx_pure ((iv 1)) rfl (fun _ => by kernel_rfl) ?_)
      refine Xg.ops_nil ?_
      refine Xg.at_ret_ps (v := (iv 1)) [0, 1, 2] [HdP p ra r.length rc sa s.length sc, RP ra rc r, SP sa sc s] Go.Proofs.Try.func22 (fun _ => by kernel_rfl) (by kernel_rfl) (by kernel_rfl) ?_
      refine ⟨((ra, rc)), trivial, by kernel_rfl, by kernel_rfl⟩)
  by_cases c2 : 0 ≤ n
  · simp only [if_neg c1, if_pos c2]
    rw [if_neg (by decide)]
    (focus
      refine Xg.spec_of Go.Proofs.Try.func22 rfl Go.Proofs.Try.ntmps22 fun g F => ?_)
    (focus
      refine Xg.at_seq ?_
      refine Xg.at_region ?_
      refine Xg.ops_op (by kernel_rfl) (Xg.opx_pure ((iv 0)) rfl (fun _ => by kernel_rfl) ?_)
      refine Xg.ops_nil ?_
      refine Xg.at_seq ?_
      refine Xg.at_block ?_
      refine Xg.at_seq ?_
      refine Xg.at_region ?_
      refine Xg.ops_op (by kernel_rfl) (Xg.opx_pure ((iv id)) rfl (fun _ => by kernel_rfl) ?_)
      refine Xg.ops_op (by kernel_rfl) (Xg.opx_pure (.bool (decide ((id : Int) < ((0 : Int))))) rfl (fun _ => by kernel_rfl) ?_)
      refine Xg.ops_op (by kernel_rfl) (Xg.opx_pure ((Value.bool (decide (id < (0 : Int))))) rfl (fun _ => by kernel_rfl) ?_)
      refine Xg.ops_nil ?_
      refine Xg.at_false (t := decide ((id < (0 : Int)))) (by kernel_rfl) (decide_eq_false (by omega)) ?_
      refine Xg.at_seq ?_
      refine Xg.at_region ?_
      refine Xg.ops_op (by kernel_rfl) (Xg.opx_pure ((pv p 0)) rfl (fun _ => by kernel_rfl) ?_)
      refine Xg.ops_op (by kernel_rfl) (Xg.opx_pure ((iv id)) rfl (fun _ => by kernel_rfl) ?_)
      refine Xg.ops_op (by kernel_rfl) (Xg.opx_call1' [1, 0, 2] [RP ra rc r, HdP p ra r.length rc sa s.length sc, SP sa sc s] (fun _ => by kernel_rfl) (@hf ) (by kernel_rfl) (by kernel_rfl) (by kernel_rfl) ?_)
      refine Xg.ops_op (by kernel_rfl) (Xg.opx_pure (.bool (decide ((n : Int) ≥ ((0 : Int))))) rfl (fun _ => by kernel_rfl) ?_)
      refine Xg.ops_op (by kernel_rfl) (Xg.opx_pure ((Value.bool (decide (n ≥ (0 : Int))))) rfl (fun _ => by kernel_rfl) ?_)
      refine Xg.ops_nil ?_
      refine Xg.at_true (t := decide ((n ≥ (0 : Int)))) (by kernel_rfl) (decide_eq_true (by omega)) ?_
      refine Xg.at_seq ?_
      refine Xg.at_region ?_
      refine Xg.ops_op (by kernel_rfl) (Xg.opx_pure ((iv 132)) rfl (fun _ => by kernel_rfl) ?_)
      refine Xg.ops_nil ?_
      refine Xg.at_ret_ps (v := (iv 132)) [1, 0, 2] [HdP p ra r.length rc sa s.length sc, RP ra rc r, SP sa sc s] Go.Proofs.Try.func22 (fun _ => by kernel_rfl) (by kernel_rfl) (by kernel_rfl) ?_
      refine ⟨((ra, rc)), trivial, by kernel_rfl, by kernel_rfl⟩)
  by_cases c3 : r.length = 64
  · simp only [if_neg c1, if_neg c2, if_pos c3]
    rw [if_neg (by decide)]
    (focus
      refine Xg.spec_of Go.Proofs.Try.func22 rfl Go.Proofs.Try.ntmps22 fun g F => ?_)
    (focus
      refine Xg.at_seq ?_
      refine Xg.at_region ?_
      refine Xg.ops_op (by kernel_rfl) (Xg.opx_pure ((iv 0)) rfl (fun _ => by kernel_rfl) ?_)
      refine Xg.ops_nil ?_
      refine Xg.at_seq ?_
      refine Xg.at_block ?_
      refine Xg.at_seq ?_
      refine Xg.at_region ?_
      refine Xg.ops_op (by kernel_rfl) (Xg.opx_pure ((iv id)) rfl (fun _ => by kernel_rfl) ?_)
      refine Xg.ops_op (by kernel_rfl) (Xg.opx_pure (.bool (decide ((id : Int) < ((0 : Int))))) rfl (fun _ => by kernel_rfl) ?_)
      refine Xg.ops_op (by kernel_rfl) (Xg.opx_pure ((Value.bool (decide (id < (0 : Int))))) rfl (fun _ => by kernel_rfl) ?_)
      refine Xg.ops_nil ?_
      refine Xg.at_false (t := decide ((id < (0 : Int)))) (by kernel_rfl) (decide_eq_false (by omega)) ?_
      refine Xg.at_seq ?_
      refine Xg.at_region ?_
      refine Xg.ops_op (by kernel_rfl) (Xg.opx_pure ((pv p 0)) rfl (fun _ => by kernel_rfl) ?_)
      refine Xg.ops_op (by kernel_rfl) (Xg.opx_pure ((iv id)) rfl (fun _ => by kernel_rfl) ?_)
      refine Xg.ops_op (by kernel_rfl) (Xg.opx_call1' [1, 0, 2] [RP ra rc r, HdP p ra r.length rc sa s.length sc, SP sa sc s] (fun _ => by kernel_rfl) (@hf ) (by kernel_rfl) (by kernel_rfl) (by kernel_rfl) ?_)
      refine Xg.ops_op (by kernel_rfl) (Xg.opx_pure (.bool (decide ((n : Int) ≥ ((0 : Int))))) rfl (fun _ => by kernel_rfl) ?_)
      refine Xg.ops_op (by kernel_rfl) (Xg.opx_pure ((Value.bool (decide (n ≥ (0 : Int))))) rfl (fun _ => by kernel_rfl) ?_)
      refine Xg.ops_nil ?_
      refine Xg.at_false (t := decide ((n ≥ (0 : Int)))) (by kernel_rfl) (decide_eq_false (by omega)) ?_
      refine Xg.at_seq ?_
      refine Xg.at_region ?_
      refine Xg.ops_op (by kernel_rfl) (Xg.opx_pure ((pv p 0)) rfl (fun _ => by kernel_rfl) ?_)
      refine Xg.ops_op (by kernel_rfl) (Xg.opx_pure ((pv p 0)) rfl (fun _ => by kernel_rfl) ?_)
      refine Xg.ops_op (by kernel_rfl) (Xg.opx_pure ((pv p 0)) rfl (fun _ => by kernel_rfl) ?_)
      refine Xg.ops_op (by kernel_rfl) (Xg.opx_load (b := p) (off := ((0 : Nat))) 1 (Value.slice ra r.length rc) rfl (by kernel_rfl) (by kernel_rfl) (by kernel_rfl) ?_)
      refine Xg.ops_op (by kernel_rfl) (Xg.opx_pure ((iv (↑r.length : Int))) rfl (fun _ => by kernel_rfl) ?_)
      refine Xg.ops_op (by kernel_rfl) (Xg.opx_pure (.bool (decide ((((↑r.length : Int)) : Int) = ((64 : Int))))) rfl (fun _ => by kernel_rfl) ?_)
      refine Xg.ops_op (by kernel_rfl) (Xg.opx_pure ((Value.bool (decide ((↑r.length : Int) = (64 : Int))))) rfl (fun _ => by kernel_rfl) ?_)
      refine Xg.ops_nil ?_
      refine Xg.at_true (t := decide (((↑r.length : Int) = (64 : Int)))) (by kernel_rfl) (decide_eq_true (by omega)) ?_
      refine Xg.at_seq ?_
      refine Xg.at_region ?_
      refine Xg.ops_op (by kernel_rfl) (Xg.opx_pure ((iv 133)) rfl (fun _ => by kernel_rfl) ?_)
      refine Xg.ops_nil ?_
      refine Xg.at_ret_ps (v := (iv 133)) [1, 0, 2] [HdP p ra r.length rc sa s.length sc, RP ra rc r, SP sa sc s] Go.Proofs.Try.func22 (fun _ => by kernel_rfl) (by kernel_rfl) (by kernel_rfl) ?_
      refine ⟨((ra, rc)), trivial, by kernel_rfl, by kernel_rfl⟩)
  · simp only [if_neg c1, if_neg c2, if_neg c3, if_true]
    (focus
      refine Xg.spec_of Go.Proofs.Try.func22 rfl Go.Proofs.Try.ntmps22 fun g F => ?_)
    (focus
      refine Xg.at_seq ?_
      refine Xg.at_region ?_
      refine Xg.ops_op (by kernel_rfl) (Xg.opx_pure ((iv 0)) rfl (fun _ => by kernel_rfl) ?_)
      refine Xg.ops_nil ?_
      refine Xg.at_seq ?_
      refine Xg.at_block ?_
      refine Xg.at_seq ?_
      refine Xg.at_region ?_
      refine Xg.ops_op (by kernel_rfl) (Xg.opx_pure ((iv id)) rfl (fun _ => by kernel_rfl) ?_)
      refine Xg.ops_op (by kernel_rfl) (Xg.opx_pure (.bool (decide ((id : Int) < ((0 : Int))))) rfl (fun _ => by kernel_rfl) ?_)
      refine Xg.ops_op (by kernel_rfl) (Xg.opx_pure ((Value.bool (decide (id < (0 : Int))))) rfl (fun _ => by kernel_rfl) ?_)
      refine Xg.ops_nil ?_
      refine Xg.at_false (t := decide ((id < (0 : Int)))) (by kernel_rfl) (decide_eq_false (by omega)) ?_
      refine Xg.at_seq ?_
      refine Xg.at_region ?_
      refine Xg.ops_op (by kernel_rfl) (Xg.opx_pure ((pv p 0)) rfl (fun _ => by kernel_rfl) ?_)
      refine Xg.ops_op (by kernel_rfl) (Xg.opx_pure ((iv id)) rfl (fun _ => by kernel_rfl) ?_)
      refine Xg.ops_op (by kernel_rfl) (Xg.opx_call1' [1, 0, 2] [RP ra rc r, HdP p ra r.length rc sa s.length sc, SP sa sc s] (fun _ => by kernel_rfl) (@hf ) (by kernel_rfl) (by kernel_rfl) (by kernel_rfl) ?_)
      refine Xg.ops_op (by kernel_rfl) (Xg.opx_pure (.bool (decide ((n : Int) ≥ ((0 : Int))))) rfl (fun _ => by kernel_rfl) ?_)
      refine Xg.ops_op (by kernel_rfl) (Xg.opx_pure ((Value.bool (decide (n ≥ (0 : Int))))) rfl (fun _ => by kernel_rfl) ?_)
      refine Xg.ops_nil ?_
      refine Xg.at_false (t := decide ((n ≥ (0 : Int)))) (by kernel_rfl) (decide_eq_false (by omega)) ?_
      refine Xg.at_seq ?_
      refine Xg.at_region ?_
      refine Xg.ops_op (by kernel_rfl) (Xg.opx_pure ((pv p 0)) rfl (fun _ => by kernel_rfl) ?_)
      refine Xg.ops_op (by kernel_rfl) (Xg.opx_pure ((pv p 0)) rfl (fun _ => by kernel_rfl) ?_)
      refine Xg.ops_op (by kernel_rfl) (Xg.opx_pure ((pv p 0)) rfl (fun _ => by kernel_rfl) ?_)
      refine Xg.ops_op (by kernel_rfl) (Xg.opx_load (b := p) (off := ((0 : Nat))) 1 (Value.slice ra r.length rc) rfl (by kernel_rfl) (by kernel_rfl) (by kernel_rfl) ?_)
      refine Xg.ops_op (by kernel_rfl) (Xg.opx_pure ((iv (↑r.length : Int))) rfl (fun _ => by kernel_rfl) ?_)
      refine Xg.ops_op (by kernel_rfl) (Xg.opx_pure (.bool (decide ((((↑r.length : Int)) : Int) = ((64 : Int))))) rfl (fun _ => by kernel_rfl) ?_)
      refine Xg.ops_op (by kernel_rfl) (Xg.opx_pure ((Value.bool (decide ((↑r.length : Int) = (64 : Int))))) rfl (fun _ => by kernel_rfl) ?_)
      refine Xg.ops_nil ?_
      refine Xg.at_false (t := decide (((↑r.length : Int) = (64 : Int)))) (by kernel_rfl) (decide_eq_false (by omega)) ?_
      refine Xg.at_skip ?_
      refine Xg.at_inBlock ?_
      refine Xg.at_seq ?_
      refine Xg.at_region ?_
      refine Xg.ops_op (by kernel_rfl) (Xg.opx_pure ((pv p 0)) rfl (fun _ => by kernel_rfl) ?_)
      refine Xg.ops_op (by kernel_rfl) (Xg.opx_pure ((pv p 0)) rfl (fun _ => by kernel_rfl) ?_)
      refine Xg.ops_op (by kernel_rfl) (Xg.opx_pure ((pv p 0)) rfl (fun _ => by kernel_rfl) ?_)
      refine Xg.ops_op (by kernel_rfl) (Xg.opx_pure ((pv p 0)) rfl (fun _ => by kernel_rfl) ?_)
      refine Xg.ops_op (by kernel_rfl) (Xg.opx_load (b := p) (off := ((0 : Nat))) 1 (Value.slice ra r.length rc) rfl (by kernel_rfl) (by kernel_rfl) (by kernel_rfl) ?_)
      refine Xg.ops_op (by kernel_rfl) (Xg.opx_pure ((iv id)) rfl (fun _ => by kernel_rfl) ?_)
      refine Xg.ops_op (by kernel_rfl) (Xg.opx_pure ((Value.agg #[iv id, Value.bool false])) rfl (fun _ => by kernel_rfl) ?_)
      refine Xg.ops_op (by kernel_rfl) (Xg.opx_bs (elem := 65) 2 [Value.agg #[iv id, Value.bool false]] [iv id, Value.bool false] (by kernel_rfl) (by kernel_rfl) (by decide) rfl (by kernel_rfl) (by kernel_rfl) (by kernel_rfl) (by kernel_rfl) fun xb1 => ?_)
      refine Xg.ops_op (by kernel_rfl) (Xg.opx_append_recs (elem := 65) (yv := (Value.slice (some (Addr.mk xb1 (0 : Nat) none)) (1 : Nat) (1 : Nat))) (l := r) 1 2 64 ((id, false)) rfl (by kernel_rfl) (by kernel_rfl) (by kernel_rfl) (by kernel_rfl) (fun _ hS => Xg.row_rd hS 0 rfl (by kernel_rfl)) (by kernel_rfl) (by first | omega | (simp only [List.length_nil]; omega) | (simp; done) | (simp; omega)) (by first | omega | (simp only [List.length_nil]; omega) | (simp; done) | (simp; omega)) fun xa1 xc1 => ?_)
      have xl1 : ((r : (List (Int × Bool))) ++ ([((id, false))] : (List (Int × Bool)))).length = (r : (List (Int × Bool))).length + 1 := by simp
      refine Xg.ops_op (by kernel_rfl) (Xg.opx_pure ((pv p 0)) rfl (fun _ => by kernel_rfl) ?_)
      refine Xg.ops_op (by kernel_rfl) (Xg.opx_pure ((pv p 0)) rfl (fun _ => by kernel_rfl) ?_)
      refine Xg.ops_op (by kernel_rfl) (Xg.opx_store1 (off := 0) 2 (Value.slice xa1 (r ++ [(id, false)]).length xc1) (by kernel_rfl) rfl (by kernel_rfl) (by kernel_rfl) (by kernel_rfl) (Nat.le_of_ble_eq_true (by kernel_rfl)) ?_)
      refine Xg.ops_nil ?_
      refine Xg.at_seq ?_
      refine Xg.at_region ?_
      refine Xg.ops_op (by kernel_rfl) (Xg.opx_pure ((iv 0)) rfl (fun _ => by kernel_rfl) ?_)
      refine Xg.ops_nil ?_
      refine Xg.at_ret_ps (v := (iv 0)) [2, 1, 3] [row p (62 : TypeId) [Value.slice xa1 (r ++ [(id, false)]).length xc1, Value.slice sa s.length sc], recsO (65 : TypeId) (2 : Nat) mc xa1 xc1 (r ++ [(id, false)]), SP sa sc s] Go.Proofs.Try.func22 (fun _ => by kernel_rfl) (by kernel_rfl) (by kernel_rfl) ?_
      refine ⟨((xa1, xc1)), trivial, by kernel_rfl, by kernel_rfl⟩)

end Go.Proofs.Ytijjficnhpokdaa
