/- The ports' laws: Load refuses. -/
import Derived.Test.YtncdmccdclhokaaDoorKP18
namespace Go.Proofs.YtncdmccdclhokaaDoor
open Go.Sl Go.Xg
set_option linter.unusedVariables false
set_option linter.unusedSimpArgs false
set_option maxHeartbeats 4000000
set_option maxRecDepth 100000
variable {te : TypeId}

set_option maxHeartbeats 0 in
theorem load_no (p : Nat) (σ : Po) (s : Value) (A : HP) (sa : Option Addr) (n sc : Nat) (xs : List Int) (hr : Reads A 1 (.slice sa n sc) n (xs.map (Value.int .u8))) (hn : xs.length = n) (hnc : n ≤ sc) (hnm : n ≤ maxLen) (hB : isB xs) (h : ¬ LoadOK xs) :
    Does Tryd.prog 24 [pt p, .slice sa n sc] [PoR p σ s, A] (Ret (.int .i64 52) [PoR p σ s, A]) := by
  unfold maxLen at hnm
  by_cases hlen : n = 19
  · subst hlen
    have hgb := goesI_bd hB hn
    unfold goesI at hgb
    have b3 := isB_get hB (i := 3) (by omega)
    have b10 := isB_get hB (i := 10) (by omega)
    have b11 := isB_get hB (i := 11) (by omega)
    have b12 := isB_get hB (i := 12) (by omega)
    have b13 := isB_get hB (i := 13) (by omega)
    have hsub := reads_sub1 hr 14 (by omega) hnc
    have hl5 : (xs.drop 14).length = 19 - 14 := by simp [hn]
    have hB5 : isB (xs.drop 14) := isB_drop 14 hB
    (focus
      refine Xg.spec_of Go.Proofs.Tryd.func24 rfl Go.Proofs.Tryd.ntmps24 fun g F => ?_)
    (focus
      refine Xg.at_seq ?_
      refine Xg.at_region ?_
      refine Xg.ops_op (by kernel_rfl) (Xg.opx_pure ((Value.int IntKind.i64 (0 : Int))) rfl (fun _ => by kernel_rfl) ?_)
      refine Xg.ops_nil ?_
      refine Xg.at_seq ?_
      refine Xg.at_seq ?_
      refine Xg.at_region ?_
      refine Xg.ops_op (by kernel_rfl) (Xg.opx_pure ((Value.slice sa (19 : Nat) sc)) rfl (fun _ => by kernel_rfl) ?_)
      refine Xg.ops_op (by kernel_rfl) (Xg.opx_pure ((Value.int IntKind.i64 (19 : Int))) rfl (fun _ => by kernel_rfl) ?_)
      refine Xg.ops_op (by kernel_rfl) (Xg.opx_pure ((Value.bool false)) rfl (fun _ => by kernel_rfl) ?_)
      refine Xg.ops_op (by kernel_rfl) (Xg.opx_pure ((Value.bool false)) rfl (fun _ => by kernel_rfl) ?_)
      refine Xg.ops_op (by kernel_rfl) (Xg.opx_pure ((Value.slice sa (19 : Nat) sc)) rfl (fun _ => by kernel_rfl) ?_)
      refine Xg.ops_op (by kernel_rfl) (Xg.opx_rd 1 (.pointer (some (Addr.mk (Xg.blk sa) (offA sa + (1 : Nat)) none))) rfl hr (by kernel_rfl) (Xg.run_ix_rd (elem := 5) (kd := .i64) (e := ((1 : Int))) 1 ((1 : Nat)) (offA sa + (1 : Nat)) (by kernel_rfl) (by kernel_rfl) (by kernel_rfl) (by kernel_rfl) rfl (by omega) (by simp only [List.length_map]; omega) (by omega)) ?_)
      refine Xg.ops_op (by kernel_rfl) (Xg.opx_rd 1 (Value.int IntKind.u8 (xs.getD (1 : Nat) (0 : Int))) rfl hr (by kernel_rfl) (Xg.run_load_rd (off0 := (offA sa + (1 : Nat))) ((1 : Nat)) (by kernel_rfl) (by omega) (Xg.get_ints (by omega)) (by kernel_rfl)) ?_)
      refine Xg.ops_op (by kernel_rfl) (Xg.opx_pure (.int .u8 (Xg.bclr .u8 ((xs.getD (1 : Nat) (0 : Int))) (((48 : Int))))) rfl (fun _ => by kernel_rfl) ?_)
      refine Xg.ops_op (by kernel_rfl) (Xg.opx_pure (.bool (!decide (((bclr IntKind.u8 (xs.getD (1 : Nat) (0 : Int)) (48 : Int)) : Int) = ((0 : Int))))) rfl (fun _ => by kernel_rfl) ?_)
      refine Xg.ops_flag (j := 14) (c := (!decide (bclr IntKind.u8 (xs.getD (1 : Nat) (0 : Int)) (48 : Int) = (0 : Int)))) (by kernel_rfl) (fun xh1 => ?_) (fun xh1 => ?_)
      replace xh1 : ¬ ((bclr IntKind.u8 (xs.getD (1 : Nat) (0 : Int)) (48 : Int) = (0 : Int))) := by simpa using xh1
      rotate_left
      replace xh1 : (bclr IntKind.u8 (xs.getD (1 : Nat) (0 : Int)) (48 : Int) = (0 : Int)) := by simpa using xh1
      rotate_right
      refine Xg.ops_op (by kernel_rfl) (Xg.opx_pure ((Value.bool true)) rfl (fun _ => by kernel_rfl) ?_)
      refine Xg.ops_op (by kernel_rfl) (Xg.opx_pure ((Value.bool true)) rfl (fun _ => by kernel_rfl) ?_)
      refine Xg.ops_skip (by kernel_rfl) ?_
      refine Xg.ops_skip (by kernel_rfl) ?_
      refine Xg.ops_skip (by kernel_rfl) ?_
      refine Xg.ops_skip (by kernel_rfl) ?_
      refine Xg.ops_skip (by kernel_rfl) ?_
      refine Xg.ops_op (by kernel_rfl) (Xg.opx_pure ((Value.bool true)) rfl (fun _ => by kernel_rfl) ?_)
      refine Xg.ops_op (by kernel_rfl) (Xg.opx_pure ((Value.bool true)) rfl (fun _ => by kernel_rfl) ?_)
      refine Xg.ops_skip (by kernel_rfl) ?_
      refine Xg.ops_skip (by kernel_rfl) ?_
      refine Xg.ops_skip (by kernel_rfl) ?_
      refine Xg.ops_skip (by kernel_rfl) ?_
      refine Xg.ops_skip (by kernel_rfl) ?_
      refine Xg.ops_op (by kernel_rfl) (Xg.opx_pure ((Value.bool true)) rfl (fun _ => by kernel_rfl) ?_)
      refine Xg.ops_op (by kernel_rfl) (Xg.opx_pure ((Value.bool true)) rfl (fun _ => by kernel_rfl) ?_)
      refine Xg.ops_skip (by kernel_rfl) ?_
      refine Xg.ops_skip (by kernel_rfl) ?_
      refine Xg.ops_skip (by kernel_rfl) ?_
      refine Xg.ops_skip (by kernel_rfl) ?_
      refine Xg.ops_skip (by kernel_rfl) ?_
      refine Xg.ops_op (by kernel_rfl) (Xg.opx_pure ((Value.bool true)) rfl (fun _ => by kernel_rfl) ?_)
      refine Xg.ops_op (by kernel_rfl) (Xg.opx_pure ((Value.bool true)) rfl (fun _ => by kernel_rfl) ?_)
      refine Xg.ops_skip (by kernel_rfl) ?_
      refine Xg.ops_skip (by kernel_rfl) ?_
      refine Xg.ops_skip (by kernel_rfl) ?_
      refine Xg.ops_skip (by kernel_rfl) ?_
      refine Xg.ops_op (by kernel_rfl) (Xg.opx_pure ((Value.bool true)) rfl (fun _ => by kernel_rfl) ?_)
      refine Xg.ops_nil ?_
      refine Xg.at_true (t := true) (by kernel_rfl) rfl ?_
      refine Xg.at_seq ?_
      refine Xg.at_region ?_
      refine Xg.ops_op (by kernel_rfl) (Xg.opx_pure ((Value.int IntKind.i64 (52 : Int))) rfl (fun _ => by kernel_rfl) ?_)
      refine Xg.ops_nil ?_
      refine Xg.at_ret_ps (v := (Value.int IntKind.i64 (52 : Int))) [0, 1] [PoR p σ s, A] Go.Proofs.Tryd.func24 (fun _ => by kernel_rfl) (by kernel_rfl) (by kernel_rfl) ?_
      exact ⟨by kernel_rfl, by kernel_rfl⟩
      refine Xg.ops_op (by kernel_rfl) (Xg.opx_pure ((Value.bool false)) rfl (fun _ => by kernel_rfl) ?_)
      refine Xg.ops_op (by kernel_rfl) (Xg.opx_pure ((Value.bool false)) rfl (fun _ => by kernel_rfl) ?_)
      refine Xg.ops_op (by kernel_rfl) (Xg.opx_pure ((Value.slice sa (19 : Nat) sc)) rfl (fun _ => by kernel_rfl) ?_)
      refine Xg.ops_op (by kernel_rfl) (Xg.opx_rd 1 (.pointer (some (Addr.mk (Xg.blk sa) (offA sa + (3 : Nat)) none))) rfl hr (by kernel_rfl) (Xg.run_ix_rd (elem := 5) (kd := .i64) (e := ((3 : Int))) 1 ((3 : Nat)) (offA sa + (3 : Nat)) (by kernel_rfl) (by kernel_rfl) (by kernel_rfl) (by kernel_rfl) rfl (by omega) (by simp only [List.length_map]; omega) (by omega)) ?_)
      refine Xg.ops_op (by kernel_rfl) (Xg.opx_rd 1 (Value.int IntKind.u8 (xs.getD (3 : Nat) (0 : Int))) rfl hr (by kernel_rfl) (Xg.run_load_rd (off0 := (offA sa + (3 : Nat))) ((3 : Nat)) (by kernel_rfl) (by omega) (Xg.get_ints (by omega)) (by kernel_rfl)) ?_)
      refine Xg.ops_op (by kernel_rfl) (Xg.opx_pure (.int .u8 (Xg.bclr .u8 ((xs.getD (3 : Nat) (0 : Int))) (((129 : Int))))) rfl (fun _ => by kernel_rfl) ?_)
      refine Xg.ops_op (by kernel_rfl) (Xg.opx_pure (.bool (!decide (((bclr IntKind.u8 (xs.getD (3 : Nat) (0 : Int)) (129 : Int)) : Int) = ((0 : Int))))) rfl (fun _ => by kernel_rfl) ?_)
      refine Xg.ops_flag (j := 21) (c := (!decide (bclr IntKind.u8 (xs.getD (3 : Nat) (0 : Int)) (129 : Int) = (0 : Int)))) (by kernel_rfl) (fun xh2 => ?_) (fun xh2 => ?_)
      replace xh2 : ¬ ((bclr IntKind.u8 (xs.getD (3 : Nat) (0 : Int)) (129 : Int) = (0 : Int))) := by simpa using xh2
      rotate_left
      replace xh2 : (bclr IntKind.u8 (xs.getD (3 : Nat) (0 : Int)) (129 : Int) = (0 : Int)) := by simpa using xh2
      rotate_right
      refine Xg.ops_op (by kernel_rfl) (Xg.opx_pure ((Value.bool true)) rfl (fun _ => by kernel_rfl) ?_)
      refine Xg.ops_op (by kernel_rfl) (Xg.opx_pure ((Value.bool true)) rfl (fun _ => by kernel_rfl) ?_)
      refine Xg.ops_skip (by kernel_rfl) ?_
      refine Xg.ops_skip (by kernel_rfl) ?_
      refine Xg.ops_skip (by kernel_rfl) ?_
      refine Xg.ops_skip (by kernel_rfl) ?_
      refine Xg.ops_skip (by kernel_rfl) ?_
      refine Xg.ops_op (by kernel_rfl) (Xg.opx_pure ((Value.bool true)) rfl (fun _ => by kernel_rfl) ?_)
      refine Xg.ops_op (by kernel_rfl) (Xg.opx_pure ((Value.bool true)) rfl (fun _ => by kernel_rfl) ?_)
      refine Xg.ops_skip (by kernel_rfl) ?_
      refine Xg.ops_skip (by kernel_rfl) ?_
      refine Xg.ops_skip (by kernel_rfl) ?_
      refine Xg.ops_skip (by kernel_rfl) ?_
      refine Xg.ops_skip (by kernel_rfl) ?_
      refine Xg.ops_op (by kernel_rfl) (Xg.opx_pure ((Value.bool true)) rfl (fun _ => by kernel_rfl) ?_)
      refine Xg.ops_op (by kernel_rfl) (Xg.opx_pure ((Value.bool true)) rfl (fun _ => by kernel_rfl) ?_)
      refine Xg.ops_skip (by kernel_rfl) ?_
      refine Xg.ops_skip (by kernel_rfl) ?_
      refine Xg.ops_skip (by kernel_rfl) ?_
      refine Xg.ops_skip (by kernel_rfl) ?_
      refine Xg.ops_op (by kernel_rfl) (Xg.opx_pure ((Value.bool true)) rfl (fun _ => by kernel_rfl) ?_)
      refine Xg.ops_nil ?_
      refine Xg.at_true (t := true) (by kernel_rfl) rfl ?_
      refine Xg.at_seq ?_
      refine Xg.at_region ?_
      refine Xg.ops_op (by kernel_rfl) (Xg.opx_pure ((Value.int IntKind.i64 (52 : Int))) rfl (fun _ => by kernel_rfl) ?_)
      refine Xg.ops_nil ?_
      refine Xg.at_ret_ps (v := (Value.int IntKind.i64 (52 : Int))) [0, 1] [PoR p σ s, A] Go.Proofs.Tryd.func24 (fun _ => by kernel_rfl) (by kernel_rfl) (by kernel_rfl) ?_
      exact ⟨by kernel_rfl, by kernel_rfl⟩
      refine Xg.ops_op (by kernel_rfl) (Xg.opx_pure ((Value.bool false)) rfl (fun _ => by kernel_rfl) ?_)
      refine Xg.ops_op (by kernel_rfl) (Xg.opx_pure ((Value.bool false)) rfl (fun _ => by kernel_rfl) ?_)
      refine Xg.ops_op (by kernel_rfl) (Xg.opx_pure ((Value.slice sa (19 : Nat) sc)) rfl (fun _ => by kernel_rfl) ?_)
      refine Xg.ops_op (by kernel_rfl) (Xg.opx_rd 1 (.pointer (some (Addr.mk (Xg.blk sa) (offA sa + (8 : Nat)) none))) rfl hr (by kernel_rfl) (Xg.run_ix_rd (elem := 5) (kd := .i64) (e := ((8 : Int))) 1 ((8 : Nat)) (offA sa + (8 : Nat)) (by kernel_rfl) (by kernel_rfl) (by kernel_rfl) (by kernel_rfl) rfl (by omega) (by simp only [List.length_map]; omega) (by omega)) ?_)
      refine Xg.ops_op (by kernel_rfl) (Xg.opx_rd 1 (Value.int IntKind.u8 (xs.getD (8 : Nat) (0 : Int))) rfl hr (by kernel_rfl) (Xg.run_load_rd (off0 := (offA sa + (8 : Nat))) ((8 : Nat)) (by kernel_rfl) (by omega) (Xg.get_ints (by omega)) (by kernel_rfl)) ?_)
      refine Xg.ops_op (by kernel_rfl) (Xg.opx_pure (.int .u8 (Xg.bclr .u8 ((xs.getD (8 : Nat) (0 : Int))) (((7 : Int))))) rfl (fun _ => by kernel_rfl) ?_)
      refine Xg.ops_op (by kernel_rfl) (Xg.opx_pure (.bool (!decide (((bclr IntKind.u8 (xs.getD (8 : Nat) (0 : Int)) (7 : Int)) : Int) = ((0 : Int))))) rfl (fun _ => by kernel_rfl) ?_)
      refine Xg.ops_flag (j := 28) (c := (!decide (bclr IntKind.u8 (xs.getD (8 : Nat) (0 : Int)) (7 : Int) = (0 : Int)))) (by kernel_rfl) (fun xh3 => ?_) (fun xh3 => ?_)
      replace xh3 : ¬ ((bclr IntKind.u8 (xs.getD (8 : Nat) (0 : Int)) (7 : Int) = (0 : Int))) := by simpa using xh3
      rotate_left
      replace xh3 : (bclr IntKind.u8 (xs.getD (8 : Nat) (0 : Int)) (7 : Int) = (0 : Int)) := by simpa using xh3
      rotate_right
      refine Xg.ops_op (by kernel_rfl) (Xg.opx_pure ((Value.bool true)) rfl (fun _ => by kernel_rfl) ?_)
      refine Xg.ops_op (by kernel_rfl) (Xg.opx_pure ((Value.bool true)) rfl (fun _ => by kernel_rfl) ?_)
      refine Xg.ops_skip (by kernel_rfl) ?_
      refine Xg.ops_skip (by kernel_rfl) ?_
      refine Xg.ops_skip (by kernel_rfl) ?_
      refine Xg.ops_skip (by kernel_rfl) ?_
      refine Xg.ops_skip (by kernel_rfl) ?_
      refine Xg.ops_op (by kernel_rfl) (Xg.opx_pure ((Value.bool true)) rfl (fun _ => by kernel_rfl) ?_)
      refine Xg.ops_op (by kernel_rfl) (Xg.opx_pure ((Value.bool true)) rfl (fun _ => by kernel_rfl) ?_)
      refine Xg.ops_skip (by kernel_rfl) ?_
      refine Xg.ops_skip (by kernel_rfl) ?_
      refine Xg.ops_skip (by kernel_rfl) ?_
      refine Xg.ops_skip (by kernel_rfl) ?_
      refine Xg.ops_op (by kernel_rfl) (Xg.opx_pure ((Value.bool true)) rfl (fun _ => by kernel_rfl) ?_)
      refine Xg.ops_nil ?_
      refine Xg.at_true (t := true) (by kernel_rfl) rfl ?_
      refine Xg.at_seq ?_
      refine Xg.at_region ?_
      refine Xg.ops_op (by kernel_rfl) (Xg.opx_pure ((Value.int IntKind.i64 (52 : Int))) rfl (fun _ => by kernel_rfl) ?_)
      refine Xg.ops_nil ?_
      refine Xg.at_ret_ps (v := (Value.int IntKind.i64 (52 : Int))) [0, 1] [PoR p σ s, A] Go.Proofs.Tryd.func24 (fun _ => by kernel_rfl) (by kernel_rfl) (by kernel_rfl) ?_
      exact ⟨by kernel_rfl, by kernel_rfl⟩
      refine Xg.ops_op (by kernel_rfl) (Xg.opx_pure ((Value.bool false)) rfl (fun _ => by kernel_rfl) ?_)
      refine Xg.ops_op (by kernel_rfl) (Xg.opx_pure ((Value.bool false)) rfl (fun _ => by kernel_rfl) ?_)
      refine Xg.ops_op (by kernel_rfl) (Xg.opx_pure ((Value.slice sa (19 : Nat) sc)) rfl (fun _ => by kernel_rfl) ?_)
      refine Xg.ops_op (by kernel_rfl) (Xg.opx_rd 1 (.pointer (some (Addr.mk (Xg.blk sa) (offA sa + (9 : Nat)) none))) rfl hr (by kernel_rfl) (Xg.run_ix_rd (elem := 5) (kd := .i64) (e := ((9 : Int))) 1 ((9 : Nat)) (offA sa + (9 : Nat)) (by kernel_rfl) (by kernel_rfl) (by kernel_rfl) (by kernel_rfl) rfl (by omega) (by simp only [List.length_map]; omega) (by omega)) ?_)
      refine Xg.ops_op (by kernel_rfl) (Xg.opx_rd 1 (Value.int IntKind.u8 (xs.getD (9 : Nat) (0 : Int))) rfl hr (by kernel_rfl) (Xg.run_load_rd (off0 := (offA sa + (9 : Nat))) ((9 : Nat)) (by kernel_rfl) (by omega) (Xg.get_ints (by omega)) (by kernel_rfl)) ?_)
      refine Xg.ops_op (by kernel_rfl) (Xg.opx_pure (.int .u8 (Xg.bclr .u8 ((xs.getD (9 : Nat) (0 : Int))) (((31 : Int))))) rfl (fun _ => by kernel_rfl) ?_)
      refine Xg.ops_op (by kernel_rfl) (Xg.opx_pure (.bool (!decide (((bclr IntKind.u8 (xs.getD (9 : Nat) (0 : Int)) (31 : Int)) : Int) = ((0 : Int))))) rfl (fun _ => by kernel_rfl) ?_)
      refine Xg.ops_flag (j := 35) (c := (!decide (bclr IntKind.u8 (xs.getD (9 : Nat) (0 : Int)) (31 : Int) = (0 : Int)))) (by kernel_rfl) (fun xh4 => ?_) (fun xh4 => ?_)
      replace xh4 : ¬ ((bclr IntKind.u8 (xs.getD (9 : Nat) (0 : Int)) (31 : Int) = (0 : Int))) := by simpa using xh4
      rotate_left
      replace xh4 : (bclr IntKind.u8 (xs.getD (9 : Nat) (0 : Int)) (31 : Int) = (0 : Int)) := by simpa using xh4
      rotate_right
      refine Xg.ops_op (by kernel_rfl) (Xg.opx_pure ((Value.bool true)) rfl (fun _ => by kernel_rfl) ?_)
      refine Xg.ops_op (by kernel_rfl) (Xg.opx_pure ((Value.bool true)) rfl (fun _ => by kernel_rfl) ?_)
      refine Xg.ops_skip (by kernel_rfl) ?_
      refine Xg.ops_skip (by kernel_rfl) ?_
      refine Xg.ops_skip (by kernel_rfl) ?_
      refine Xg.ops_skip (by kernel_rfl) ?_
      refine Xg.ops_op (by kernel_rfl) (Xg.opx_pure ((Value.bool true)) rfl (fun _ => by kernel_rfl) ?_)
      refine Xg.ops_nil ?_
      refine Xg.at_true (t := true) (by kernel_rfl) rfl ?_
      refine Xg.at_seq ?_
      refine Xg.at_region ?_
      refine Xg.ops_op (by kernel_rfl) (Xg.opx_pure ((Value.int IntKind.i64 (52 : Int))) rfl (fun _ => by kernel_rfl) ?_)
      refine Xg.ops_nil ?_
      refine Xg.at_ret_ps (v := (Value.int IntKind.i64 (52 : Int))) [0, 1] [PoR p σ s, A] Go.Proofs.Tryd.func24 (fun _ => by kernel_rfl) (by kernel_rfl) (by kernel_rfl) ?_
      exact ⟨by kernel_rfl, by kernel_rfl⟩
      refine Xg.ops_op (by kernel_rfl) (Xg.opx_pure ((Value.bool false)) rfl (fun _ => by kernel_rfl) ?_)
      refine Xg.ops_op (by kernel_rfl) (Xg.opx_pure ((Value.bool false)) rfl (fun _ => by kernel_rfl) ?_)
      refine Xg.ops_op (by kernel_rfl) (Xg.opx_pure ((Value.slice sa (19 : Nat) sc)) rfl (fun _ => by kernel_rfl) ?_)
      refine Xg.ops_op (by kernel_rfl) (Xg.opx_rd 1 (.pointer (some (Addr.mk (Xg.blk sa) (offA sa + (10 : Nat)) none))) rfl hr (by kernel_rfl) (Xg.run_ix_rd (elem := 5) (kd := .i64) (e := ((10 : Int))) 1 ((10 : Nat)) (offA sa + (10 : Nat)) (by kernel_rfl) (by kernel_rfl) (by kernel_rfl) (by kernel_rfl) rfl (by omega) (by simp only [List.length_map]; omega) (by omega)) ?_)
      refine Xg.ops_op (by kernel_rfl) (Xg.opx_rd 1 (Value.int IntKind.u8 (xs.getD (10 : Nat) (0 : Int))) rfl hr (by kernel_rfl) (Xg.run_load_rd (off0 := (offA sa + (10 : Nat))) ((10 : Nat)) (by kernel_rfl) (by omega) (Xg.get_ints (by omega)) (by kernel_rfl)) ?_)
      refine Xg.ops_op (by kernel_rfl) (Xg.opx_pure (.bool (decide (((xs.getD (10 : Nat) (0 : Int)) : Int) > ((4 : Int))))) rfl (fun _ => by kernel_rfl) ?_)
      refine Xg.ops_flag (j := 41) (c := (decide (xs.getD (10 : Nat) (0 : Int) > (4 : Int)))) (by kernel_rfl) (fun xh5 => ?_) (fun xh5 => ?_)
      replace xh5 : (xs.getD (10 : Nat) (0 : Int) > (4 : Int)) := of_decide_eq_true xh5
      rotate_left
      replace xh5 : ¬ ((xs.getD (10 : Nat) (0 : Int) > (4 : Int))) := of_decide_eq_false xh5
      rotate_right
      refine Xg.ops_op (by kernel_rfl) (Xg.opx_pure ((Value.bool true)) rfl (fun _ => by kernel_rfl) ?_)
      refine Xg.ops_nil ?_
      refine Xg.at_true (t := true) (by kernel_rfl) rfl ?_
      refine Xg.at_seq ?_
      refine Xg.at_region ?_
      refine Xg.ops_op (by kernel_rfl) (Xg.opx_pure ((Value.int IntKind.i64 (52 : Int))) rfl (fun _ => by kernel_rfl) ?_)
      refine Xg.ops_nil ?_
      refine Xg.at_ret_ps (v := (Value.int IntKind.i64 (52 : Int))) [0, 1] [PoR p σ s, A] Go.Proofs.Tryd.func24 (fun _ => by kernel_rfl) (by kernel_rfl) (by kernel_rfl) ?_
      exact ⟨by kernel_rfl, by kernel_rfl⟩
      refine Xg.ops_op (by kernel_rfl) (Xg.opx_pure ((Value.bool false)) rfl (fun _ => by kernel_rfl) ?_)
      refine Xg.ops_nil ?_
      refine Xg.at_false (t := false) (by kernel_rfl) rfl ?_
      refine Xg.at_skip ?_
      refine Xg.at_seq ?_
      refine Xg.at_draw [] [(0, [0, 4, 5, 6, 7, 8], (RdIs (1 : Nat) (Value.slice sa (19 : Nat) sc) (19 : Nat) (List.map (Value.int IntKind.u8) xs))), (1, [0, 1, 4, 5, 6, 7, 8], (RdIs (1 : Nat) (Value.slice sa (19 : Nat) sc) (19 : Nat) (List.map (Value.int IntKind.u8) xs))), (2, [0, 1, 2, 4, 5, 6, 7, 8], (RdIs (1 : Nat) (Value.slice sa (19 : Nat) sc) (19 : Nat) (List.map (Value.int IntKind.u8) xs))), (5, [0, 1, 2, 3, 4, 5], (RdIs (1 : Nat) (Value.slice sa (19 : Nat) sc) (19 : Nat) (List.map (Value.int IntKind.u8) xs))), (6, [0, 1, 2, 3, 4, 5, 6], (RdIs (1 : Nat) (Value.slice sa (19 : Nat) sc) (19 : Nat) (List.map (Value.int IntKind.u8) xs)))] (by kernel_rfl) ?_
      refine Xg.any_pure ((Value.slice sa (19 : Nat) sc)) 0 (by kernel_rfl) rfl (by kernel_rfl) (by kernel_rfl) (by kernel_rfl) (by kernel_rfl) rfl (fun _ => by kernel_rfl) ?_
      refine Xg.any_reads (.pointer (some (Addr.mk (Xg.blk sa) (offA sa + (11 : Nat)) none))) 1 1 (by kernel_rfl) rfl (by kernel_rfl) (by kernel_rfl) (by kernel_rfl) (by kernel_rfl) rfl rfl (by kernel_rfl) (Xg.rd_now 1 hr (by kernel_rfl)) (Xg.run_ix_rd (elem := 5) (kd := .i64) (e := ((11 : Int))) 1 ((11 : Nat)) (offA sa + (11 : Nat)) (by kernel_rfl) (by kernel_rfl) (by kernel_rfl) (by kernel_rfl) rfl (by omega) (by simp only [List.length_map]; omega) (by omega)) ?_
      refine Xg.any_reads (Value.int IntKind.u8 (xs.getD (11 : Nat) (0 : Int))) 2 2 (by kernel_rfl) rfl (by kernel_rfl) (by kernel_rfl) (by kernel_rfl) (by kernel_rfl) rfl rfl (by kernel_rfl) (Xg.rd_now 1 hr (by kernel_rfl)) (Xg.run_load_rd (off0 := (offA sa + (11 : Nat))) ((11 : Nat)) (by kernel_rfl) (by omega) (Xg.get_ints (by omega)) (by kernel_rfl)) ?_
      refine Xg.any_int .i64 (IntKind.wrap .i64 ((xs.getD (11 : Nat) (0 : Int)))) 3 (by kernel_rfl) rfl (by kernel_rfl) (by kernel_rfl) (by kernel_rfl) (by kernel_rfl) rfl (fun _ => by kernel_rfl) (Xg.wrap_i64_in (by omega)) ?_
      refine Xg.any_pure ((Value.slice sa (19 : Nat) sc)) 4 (by kernel_rfl) rfl (by kernel_rfl) (by kernel_rfl) (by kernel_rfl) (by kernel_rfl) rfl (fun _ => by kernel_rfl) ?_
      refine Xg.any_reads (.pointer (some (Addr.mk (Xg.blk sa) (offA sa + (12 : Nat)) none))) 5 3 (by kernel_rfl) rfl (by kernel_rfl) (by kernel_rfl) (by kernel_rfl) (by kernel_rfl) rfl rfl (by kernel_rfl) (Xg.rd_now 1 hr (by kernel_rfl)) (Xg.run_ix_rd (elem := 5) (kd := .i64) (e := ((12 : Int))) 1 ((12 : Nat)) (offA sa + (12 : Nat)) (by kernel_rfl) (by kernel_rfl) (by kernel_rfl) (by kernel_rfl) rfl (by omega) (by simp only [List.length_map]; omega) (by omega)) ?_
      refine Xg.any_reads (Value.int IntKind.u8 (xs.getD (12 : Nat) (0 : Int))) 6 4 (by kernel_rfl) rfl (by kernel_rfl) (by kernel_rfl) (by kernel_rfl) (by kernel_rfl) rfl rfl (by kernel_rfl) (Xg.rd_now 1 hr (by kernel_rfl)) (Xg.run_load_rd (off0 := (offA sa + (12 : Nat))) ((12 : Nat)) (by kernel_rfl) (by omega) (Xg.get_ints (by omega)) (by kernel_rfl)) ?_
      refine Xg.any_int .i64 (IntKind.wrap .i64 ((xs.getD (12 : Nat) (0 : Int)))) 7 (by kernel_rfl) rfl (by kernel_rfl) (by kernel_rfl) (by kernel_rfl) (by kernel_rfl) rfl (fun _ => by kernel_rfl) (Xg.wrap_i64_in (by omega)) ?_
      refine Xg.any_int .i64 (IntKind.wrap .i64 ((xs.getD (12 : Nat) (0 : Int) * (256 : Int)))) 8 (by kernel_rfl) rfl (by kernel_rfl) (by kernel_rfl) (by kernel_rfl) (by kernel_rfl) rfl (fun _ => by kernel_rfl) (Xg.wrap_i64_in (by omega)) ?_
      refine Xg.any_pure (.int .i64 (Xg.bor .i64 ((xs.getD (11 : Nat) (0 : Int))) ((xs.getD (12 : Nat) (0 : Int) * (256 : Int))))) 9 (by kernel_rfl) rfl (by kernel_rfl) (by kernel_rfl) (by kernel_rfl) (by kernel_rfl) rfl (fun _ => by kernel_rfl) ?_
      refine Xg.any_pure ((Value.int IntKind.i64 (bor IntKind.i64 (xs.getD (11 : Nat) (0 : Int)) (xs.getD (12 : Nat) (0 : Int) * (256 : Int))))) 10 (by kernel_rfl) rfl (by kernel_rfl) (by kernel_rfl) (by kernel_rfl) (by kernel_rfl) rfl (fun _ => by kernel_rfl) ?_
      refine Xg.any_nil (by kernel_rfl) ?_
      refine Xg.at_seq ?_
      refine Xg.at_seq ?_
      refine Xg.at_region ?_
      refine Xg.ops_op (by kernel_rfl) (Xg.opx_pure ((Value.int IntKind.i64 (bor IntKind.i64 (xs.getD (11 : Nat) (0 : Int)) (xs.getD (12 : Nat) (0 : Int) * (256 : Int))))) rfl (fun _ => by kernel_rfl) ?_)
      refine Xg.ops_op (by kernel_rfl) (Xg.opx_pure (.bool (decide (((bor IntKind.i64 (xs.getD (11 : Nat) (0 : Int)) (xs.getD (12 : Nat) (0 : Int) * (256 : Int))) : Int) > ((4096 : Int))))) rfl (fun _ => by kernel_rfl) ?_)
      refine Xg.ops_op (by kernel_rfl) (Xg.opx_pure ((Value.bool (decide (bor IntKind.i64 (xs.getD (11 : Nat) (0 : Int)) (xs.getD (12 : Nat) (0 : Int) * (256 : Int)) > (4096 : Int))))) rfl (fun _ => by kernel_rfl) ?_)
      refine Xg.ops_flag (j := 55) (c := (decide (bor IntKind.i64 (xs.getD (11 : Nat) (0 : Int)) (xs.getD (12 : Nat) (0 : Int) * (256 : Int)) > (4096 : Int)))) (by kernel_rfl) (fun xh6 => ?_) (fun xh6 => ?_)
      replace xh6 : (bor IntKind.i64 (xs.getD (11 : Nat) (0 : Int)) (xs.getD (12 : Nat) (0 : Int) * (256 : Int)) > (4096 : Int)) := of_decide_eq_true xh6
      rotate_left
      replace xh6 : ¬ ((bor IntKind.i64 (xs.getD (11 : Nat) (0 : Int)) (xs.getD (12 : Nat) (0 : Int) * (256 : Int)) > (4096 : Int))) := of_decide_eq_false xh6
      rotate_right
      refine Xg.ops_skip (by kernel_rfl) ?_
      refine Xg.ops_skip (by kernel_rfl) ?_
      refine Xg.ops_skip (by kernel_rfl) ?_
      refine Xg.ops_skip (by kernel_rfl) ?_
      refine Xg.ops_skip (by kernel_rfl) ?_
      refine Xg.ops_skip (by kernel_rfl) ?_
      refine Xg.ops_skip (by kernel_rfl) ?_
      refine Xg.ops_op (by kernel_rfl) (Xg.opx_pure ((Value.bool true)) rfl (fun _ => by kernel_rfl) ?_)
      refine Xg.ops_op (by kernel_rfl) (Xg.opx_pure ((Value.bool true)) rfl (fun _ => by kernel_rfl) ?_)
      refine Xg.ops_skip (by kernel_rfl) ?_
      refine Xg.ops_skip (by kernel_rfl) ?_
      refine Xg.ops_skip (by kernel_rfl) ?_
      refine Xg.ops_skip (by kernel_rfl) ?_
      refine Xg.ops_skip (by kernel_rfl) ?_
      refine Xg.ops_skip (by kernel_rfl) ?_
      refine Xg.ops_skip (by kernel_rfl) ?_
      refine Xg.ops_skip (by kernel_rfl) ?_
      refine Xg.ops_op (by kernel_rfl) (Xg.opx_pure ((Value.bool true)) rfl (fun _ => by kernel_rfl) ?_)
      refine Xg.ops_op (by kernel_rfl) (Xg.opx_pure ((Value.bool true)) rfl (fun _ => by kernel_rfl) ?_)
      refine Xg.ops_skip (by kernel_rfl) ?_
      refine Xg.ops_skip (by kernel_rfl) ?_
      refine Xg.ops_skip (by kernel_rfl) ?_
      refine Xg.ops_op (by kernel_rfl) (Xg.opx_pure ((Value.bool true)) rfl (fun _ => by kernel_rfl) ?_)
      refine Xg.ops_nil ?_
      refine Xg.at_true (t := true) (by kernel_rfl) rfl ?_
      refine Xg.at_seq ?_
      refine Xg.at_region ?_
      refine Xg.ops_op (by kernel_rfl) (Xg.opx_pure ((Value.int IntKind.i64 (52 : Int))) rfl (fun _ => by kernel_rfl) ?_)
      refine Xg.ops_nil ?_
      refine Xg.at_ret_ps (v := (Value.int IntKind.i64 (52 : Int))) [0, 1] [PoR p σ s, A] Go.Proofs.Tryd.func24 (fun _ => by kernel_rfl) (by kernel_rfl) (by kernel_rfl) ?_
      exact ⟨by kernel_rfl, by kernel_rfl⟩
      refine Xg.ops_op (by kernel_rfl) (Xg.opx_pure ((Value.int IntKind.i64 (bor IntKind.i64 (xs.getD (11 : Nat) (0 : Int)) (xs.getD (12 : Nat) (0 : Int) * (256 : Int))))) rfl (fun _ => by kernel_rfl) ?_)
      refine Xg.ops_op (by kernel_rfl) (Xg.opx_pure (.bool (decide (((bor IntKind.i64 (xs.getD (11 : Nat) (0 : Int)) (xs.getD (12 : Nat) (0 : Int) * (256 : Int))) : Int) > ((0 : Int))))) rfl (fun _ => by kernel_rfl) ?_)
      refine Xg.ops_op (by kernel_rfl) (Xg.opx_pure ((Value.slice sa (19 : Nat) sc)) rfl (fun _ => by kernel_rfl) ?_)
      refine Xg.ops_op (by kernel_rfl) (Xg.opx_rd 1 (.pointer (some (Addr.mk (Xg.blk sa) (offA sa + (3 : Nat)) none))) rfl hr (by kernel_rfl) (Xg.run_ix_rd (elem := 5) (kd := .i64) (e := ((3 : Int))) 1 ((3 : Nat)) (offA sa + (3 : Nat)) (by kernel_rfl) (by kernel_rfl) (by kernel_rfl) (by kernel_rfl) rfl (by omega) (by simp only [List.length_map]; omega) (by omega)) ?_)
      refine Xg.ops_op (by kernel_rfl) (Xg.opx_rd 1 (Value.int IntKind.u8 (xs.getD (3 : Nat) (0 : Int))) rfl hr (by kernel_rfl) (Xg.run_load_rd (off0 := (offA sa + (3 : Nat))) ((3 : Nat)) (by kernel_rfl) (by omega) (Xg.get_ints (by omega)) (by kernel_rfl)) ?_)
      refine Xg.ops_op (by kernel_rfl) (Xg.opx_pure (.bool (decide (((xs.getD (3 : Nat) (0 : Int)) : Int) = ((129 : Int))))) rfl (fun _ => by kernel_rfl) ?_)
      refine Xg.ops_flag (j := 61) (c := (decide (xs.getD (3 : Nat) (0 : Int) = (129 : Int)))) (by kernel_rfl) (fun xh7 => ?_) (fun xh7 => ?_)
      replace xh7 : (xs.getD (3 : Nat) (0 : Int) = (129 : Int)) := of_decide_eq_true xh7
      rotate_left
      replace xh7 : ¬ ((xs.getD (3 : Nat) (0 : Int) = (129 : Int))) := of_decide_eq_false xh7
      rotate_right
      refine Xg.ops_op (by kernel_rfl) (Xg.opx_eq (v := ((Value.bool !decide (bor IntKind.i64 (xs.getD (11 : Nat) (0 : Int)) (xs.getD (12 : Nat) (0 : Int) * (256 : Int)) > (0 : Int)) == true))) (.bool (!(decide (bor IntKind.i64 (xs.getD (11 : Nat) (0 : Int)) (xs.getD (12 : Nat) (0 : Int) * (256 : Int)) > (0 : Int))))) rfl (fun _ => by kernel_rfl) (by generalize ((decide (bor IntKind.i64 (xs.getD (11 : Nat) (0 : Int)) (xs.getD (12 : Nat) (0 : Int) * (256 : Int)) > (0 : Int))) : Bool) = bb; cases bb <;> rfl) ?_)
      refine Xg.ops_flag (j := 62) (c := (!decide (bor IntKind.i64 (xs.getD (11 : Nat) (0 : Int)) (xs.getD (12 : Nat) (0 : Int) * (256 : Int)) > (0 : Int)))) (by kernel_rfl) (fun xh8 => ?_) (fun xh8 => ?_)
      replace xh8 : ¬ ((bor IntKind.i64 (xs.getD (11 : Nat) (0 : Int)) (xs.getD (12 : Nat) (0 : Int) * (256 : Int)) > (0 : Int))) := by simpa using xh8
      rotate_left
      replace xh8 : (bor IntKind.i64 (xs.getD (11 : Nat) (0 : Int)) (xs.getD (12 : Nat) (0 : Int) * (256 : Int)) > (0 : Int)) := by simpa using xh8
      rotate_right
      refine Xg.ops_op (by kernel_rfl) (Xg.opx_pure ((Value.bool true)) rfl (fun _ => by kernel_rfl) ?_)
      refine Xg.ops_op (by kernel_rfl) (Xg.opx_pure ((Value.bool true)) rfl (fun _ => by kernel_rfl) ?_)
      refine Xg.ops_skip (by kernel_rfl) ?_
      refine Xg.ops_skip (by kernel_rfl) ?_
      refine Xg.ops_skip (by kernel_rfl) ?_
      refine Xg.ops_skip (by kernel_rfl) ?_
      refine Xg.ops_skip (by kernel_rfl) ?_
      refine Xg.ops_skip (by kernel_rfl) ?_
      refine Xg.ops_skip (by kernel_rfl) ?_
      refine Xg.ops_skip (by kernel_rfl) ?_
      refine Xg.ops_op (by kernel_rfl) (Xg.opx_pure ((Value.bool true)) rfl (fun _ => by kernel_rfl) ?_)
      refine Xg.ops_op (by kernel_rfl) (Xg.opx_pure ((Value.bool true)) rfl (fun _ => by kernel_rfl) ?_)
      refine Xg.ops_skip (by kernel_rfl) ?_
      refine Xg.ops_skip (by kernel_rfl) ?_
      refine Xg.ops_skip (by kernel_rfl) ?_
      refine Xg.ops_op (by kernel_rfl) (Xg.opx_pure ((Value.bool true)) rfl (fun _ => by kernel_rfl) ?_)
      refine Xg.ops_nil ?_
      refine Xg.at_true (t := true) (by kernel_rfl) rfl ?_
      refine Xg.at_seq ?_
      refine Xg.at_region ?_
      refine Xg.ops_op (by kernel_rfl) (Xg.opx_pure ((Value.int IntKind.i64 (52 : Int))) rfl (fun _ => by kernel_rfl) ?_)
      refine Xg.ops_nil ?_
      refine Xg.at_ret_ps (v := (Value.int IntKind.i64 (52 : Int))) [0, 1] [PoR p σ s, A] Go.Proofs.Tryd.func24 (fun _ => by kernel_rfl) (by kernel_rfl) (by kernel_rfl) ?_
      exact ⟨by kernel_rfl, by kernel_rfl⟩
      refine Xg.ops_op (by kernel_rfl) (Xg.opx_pure ((Value.bool false)) rfl (fun _ => by kernel_rfl) ?_)
      refine Xg.ops_op (by kernel_rfl) (Xg.opx_pure ((Value.bool false)) rfl (fun _ => by kernel_rfl) ?_)
      refine Xg.ops_op (by kernel_rfl) (Xg.opx_pure ((Value.int IntKind.i64 (bor IntKind.i64 (xs.getD (11 : Nat) (0 : Int)) (xs.getD (12 : Nat) (0 : Int) * (256 : Int))))) rfl (fun _ => by kernel_rfl) ?_)
      refine Xg.ops_op (by kernel_rfl) (Xg.opx_pure (.bool (decide (((bor IntKind.i64 (xs.getD (11 : Nat) (0 : Int)) (xs.getD (12 : Nat) (0 : Int) * (256 : Int))) : Int) = ((0 : Int))))) rfl (fun _ => by kernel_rfl) ?_)
      refine Xg.ops_op (by kernel_rfl) (Xg.opx_pure ((Value.bool (decide (bor IntKind.i64 (xs.getD (11 : Nat) (0 : Int)) (xs.getD (12 : Nat) (0 : Int) * (256 : Int)) = (0 : Int))))) rfl (fun _ => by kernel_rfl) ?_)
      refine Xg.ops_flag (j := 67) (c := (decide (bor IntKind.i64 (xs.getD (11 : Nat) (0 : Int)) (xs.getD (12 : Nat) (0 : Int) * (256 : Int)) = (0 : Int)))) (by kernel_rfl) (fun xh9 => absurd (of_decide_eq_true xh9) (by omega)) (fun _ => ?_)
      refine Xg.ops_skip (by kernel_rfl) ?_
      refine Xg.ops_skip (by kernel_rfl) ?_
      refine Xg.ops_skip (by kernel_rfl) ?_
      refine Xg.ops_skip (by kernel_rfl) ?_
      refine Xg.ops_op (by kernel_rfl) (Xg.opx_pure ((Value.bool false)) rfl (fun _ => by kernel_rfl) ?_)
      refine Xg.ops_op (by kernel_rfl) (Xg.opx_pure ((Value.bool false)) rfl (fun _ => by kernel_rfl) ?_)
      refine Xg.ops_op (by kernel_rfl) (Xg.opx_pure ((Value.bool false)) rfl (fun _ => by kernel_rfl) ?_)
      refine Xg.ops_op (by kernel_rfl) (Xg.opx_pure ((Value.slice sa (19 : Nat) sc)) rfl (fun _ => by kernel_rfl) ?_)
      refine Xg.ops_op (by kernel_rfl) (Xg.opx_run (.slice (Xg.subA sa sc ((14 : Nat)) 1) (((19 : Nat)) - ((14 : Nat))) (sc - ((14 : Nat)))) rfl (Xg.run_sl_lo (elem := 5) (a := sa) (c := sc) (len := ((19 : Nat))) (k1 := .i64) (e1 := ((14 : Int))) 1 ((14 : Nat)) (by kernel_rfl) (by kernel_rfl) (by kernel_rfl) (by kernel_rfl) rfl (by omega)) ?_)
      refine Xg.ops_op (by kernel_rfl) (Xg.opx_callE' [1] (fun xx1 => [A, PoR p σ s]) (fun _ => by kernel_rfl) (@Go.Proofs.YtncdmccdclhokaaDoor.containsf_d (A) ((subA sa sc (14 : Nat) (1 : Nat))) (((5 : Nat))) ((sc - (14 : Nat))) ((List.drop (14 : Nat) xs)) (by omega) (by omega) (by omega) (by omega)) (by kernel_rfl) (by kernel_rfl) (by kernel_rfl) fun xx1 xh9 => ?_)
      try dsimp only at xh9
      refine Xg.ops_flag (j := 77) (c := xx1) (by kernel_rfl) (fun xh10 => ?_) (fun xh10 => ?_)
      refine Xg.ops_op (by kernel_rfl) (Xg.opx_pure ((Value.bool true)) rfl (fun _ => by kernel_rfl) ?_)
      refine Xg.ops_nil ?_
      refine Xg.at_true (t := true) (by kernel_rfl) rfl ?_
      refine Xg.at_seq ?_
      refine Xg.at_region ?_
      refine Xg.ops_op (by kernel_rfl) (Xg.opx_pure ((Value.int IntKind.i64 (52 : Int))) rfl (fun _ => by kernel_rfl) ?_)
      refine Xg.ops_nil ?_
      refine Xg.at_ret_ps (v := (Value.int IntKind.i64 (52 : Int))) [1, 0] [PoR p σ s, A] Go.Proofs.Tryd.func24 (fun _ => by kernel_rfl) (by kernel_rfl) (by kernel_rfl) ?_
      exact ⟨by kernel_rfl, by kernel_rfl⟩
      refine Xg.ops_op (by kernel_rfl) (Xg.opx_pure ((Value.bool false)) rfl (fun _ => by kernel_rfl) ?_)
      refine Xg.ops_nil ?_
      refine Xg.at_false (t := false) (by kernel_rfl) rfl ?_
      refine Xg.at_skip ?_
      refine Xg.at_seq ?_
      refine Xg.at_draw [45] [(2, [0, 1, 2, 4, 5, 6, 7, 8, 9, 10, 11, 12, 13, 14, 15, 16, 17, 18, 19, 20, 21, 22, 23, 24, 25, 26, 27, 28, 29, 30, 31, 32, 33, 34, 35, 36, 37, 38, 39, 40, 41, 42], (RdIs (1 : Nat) (Value.slice sa (19 : Nat) sc) (19 : Nat) (List.map (Value.int IntKind.u8) xs))), (3, [0, 1, 2, 3, 4, 5, 6, 7, 8, 9, 10, 11, 12, 13, 14, 15, 16, 17, 18, 19, 20, 21, 22, 23, 24, 25, 26, 27, 28, 29, 30, 31, 32, 33, 34, 35, 36, 37, 38, 39, 40, 41, 42], (RdIs (1 : Nat) (Value.slice sa (19 : Nat) sc) (19 : Nat) (List.map (Value.int IntKind.u8) xs))), (5, [0, 1, 2, 3, 4, 5, 7, 8, 9, 10, 11, 12, 13, 14, 15, 16, 17, 18, 19, 20, 21, 22, 23, 24, 25, 26, 27, 28, 29, 30, 31, 32, 33, 34, 35, 36, 37, 38, 39, 40, 41, 42], (RdIs (1 : Nat) (Value.slice sa (19 : Nat) sc) (19 : Nat) (List.map (Value.int IntKind.u8) xs))), (6, [0, 1, 2, 3, 4, 5, 6, 7, 8, 9, 10, 11, 12, 13, 14, 15, 16, 17, 18, 19, 20, 21, 22, 23, 24, 25, 26, 27, 28, 29, 30, 31, 32, 33, 34, 35, 36, 37, 38, 39, 40, 41, 42], (RdIs (1 : Nat) (Value.slice sa (19 : Nat) sc) (19 : Nat) (List.map (Value.int IntKind.u8) xs))), (8, [0, 1, 2, 3, 4, 5, 6, 7, 8, 10, 11, 12, 13, 14, 15, 16, 17, 18, 19, 20, 21, 22, 23, 24, 25, 26, 27, 28, 29, 30, 31, 32, 33, 34, 35, 36, 37, 38, 39, 40, 41, 42], (RdIs (1 : Nat) (Value.slice sa (19 : Nat) sc) (19 : Nat) (List.map (Value.int IntKind.u8) xs))), (9, [0, 1, 2, 3, 4, 5, 6, 7, 8, 9, 10, 11, 12, 13, 14, 15, 16, 17, 18, 19, 20, 21, 22, 23, 24, 25, 26, 27, 28, 29, 30, 31, 32, 33, 34, 35, 36, 37, 38, 39, 40, 41, 42], (RdIs (1 : Nat) (Value.slice sa (19 : Nat) sc) (19 : Nat) (List.map (Value.int IntKind.u8) xs))), (10, [0, 1, 2, 3, 4, 5, 6, 7, 8, 9, 10, 13, 14, 15, 16, 17, 18, 19, 20, 21, 22, 23, 24, 25, 26, 27, 28, 29, 30, 31, 32, 33, 34, 35, 36, 37, 38, 39, 40, 41, 42], (RdIs (1 : Nat) (Value.slice sa (19 : Nat) sc) (19 : Nat) (List.map (Value.int IntKind.u8) xs))), (11, [0, 1, 2, 3, 4, 5, 6, 7, 8, 9, 10, 11, 13, 14, 15, 16, 17, 18, 19, 20, 21, 22, 23, 24, 25, 26, 27, 28, 29, 30, 31, 32, 33, 34, 35, 36, 37, 38, 39, 40, 41, 42], (RdIs (1 : Nat) (Value.slice sa (19 : Nat) sc) (19 : Nat) (List.map (Value.int IntKind.u8) xs))), (12, [0, 1, 2, 3, 4, 5, 6, 7, 8, 9, 10, 11, 12, 13, 14, 15, 16, 17, 18, 19, 20, 21, 22, 23, 24, 25, 26, 27, 28, 29, 30, 31, 32, 33, 34, 35, 36, 37, 38, 39, 40, 41, 42], (RdIs (1 : Nat) (Value.slice sa (19 : Nat) sc) (19 : Nat) (List.map (Value.int IntKind.u8) xs))), (14, [0, 1, 2, 3, 4, 5, 6, 7, 8, 9, 10, 11, 12, 13, 14, 17, 18, 19, 20, 21, 23, 24, 25, 26, 27, 28, 29, 30, 31, 32, 33, 34, 35, 36, 37, 38, 39, 40, 41, 42], (RdIs (1 : Nat) (Value.slice sa (19 : Nat) sc) (19 : Nat) (List.map (Value.int IntKind.u8) xs))), (15, [0, 1, 2, 3, 4, 5, 6, 7, 8, 9, 10, 11, 12, 13, 14, 15, 17, 18, 19, 20, 21, 23, 24, 25, 26, 27, 28, 29, 30, 31, 32, 33, 34, 35, 36, 37, 38, 39, 40, 41, 42], (RdIs (1 : Nat) (Value.slice sa (19 : Nat) sc) (19 : Nat) (List.map (Value.int IntKind.u8) xs))), (18, [0, 1, 2, 3, 4, 5, 6, 7, 8, 9, 10, 11, 12, 13, 14, 15, 16, 17, 18, 23, 24, 25, 26, 27, 28, 29, 30, 31, 32, 33, 34, 35, 36, 37, 38, 39, 40, 41, 42], (RdIs (1 : Nat) (Value.slice sa (19 : Nat) sc) (19 : Nat) (List.map (Value.int IntKind.u8) xs))), (19, [0, 1, 2, 3, 4, 5, 6, 7, 8, 9, 10, 11, 12, 13, 14, 15, 16, 17, 18, 19, 23, 24, 25, 26, 27, 28, 29, 30, 31, 32, 33, 34, 35, 36, 37, 38, 39, 40, 41, 42], (RdIs (1 : Nat) (Value.slice sa (19 : Nat) sc) (19 : Nat) (List.map (Value.int IntKind.u8) xs))), (24, [0, 1, 2, 3, 4, 5, 6, 7, 8, 9, 10, 11, 12, 13, 14, 15, 16, 17, 18, 19, 20, 21, 22, 23, 24, 26, 27, 28, 29, 30, 31, 32, 33, 34, 35, 36, 37, 38, 39, 40, 41, 42], (RdIs (1 : Nat) (Value.slice sa (19 : Nat) sc) (19 : Nat) (List.map (Value.int IntKind.u8) xs))), (25, [0, 1, 2, 3, 4, 5, 6, 7, 8, 9, 10, 11, 12, 13, 14, 15, 16, 17, 18, 19, 20, 21, 22, 23, 24, 25, 26, 27, 28, 29, 30, 31, 32, 33, 34, 35, 36, 37, 38, 39, 40, 41, 42], (RdIs (1 : Nat) (Value.slice sa (19 : Nat) sc) (19 : Nat) (List.map (Value.int IntKind.u8) xs))), (27, [0, 1, 2, 3, 4, 5, 6, 7, 8, 9, 10, 11, 12, 13, 14, 15, 16, 17, 18, 19, 20, 21, 22, 23, 24, 25, 26, 27, 29, 30, 31, 32, 33, 34, 35, 36, 37, 38, 39, 40, 41, 42], (RdIs (1 : Nat) (Value.slice sa (19 : Nat) sc) (19 : Nat) (List.map (Value.int IntKind.u8) xs))), (28, [0, 1, 2, 3, 4, 5, 6, 7, 8, 9, 10, 11, 12, 13, 14, 15, 16, 17, 18, 19, 20, 21, 22, 23, 24, 25, 26, 27, 28, 29, 30, 31, 32, 33, 34, 35, 36, 37, 38, 39, 40, 41, 42], (RdIs (1 : Nat) (Value.slice sa (19 : Nat) sc) (19 : Nat) (List.map (Value.int IntKind.u8) xs))), (30, [0, 1, 2, 3, 4, 5, 6, 7, 8, 9, 10, 11, 12, 13, 14, 15, 16, 17, 18, 19, 20, 21, 22, 23, 24, 25, 26, 27, 28, 29, 30, 32, 33, 34, 35, 36, 37, 38, 39, 40, 41, 42], (RdIs (1 : Nat) (Value.slice sa (19 : Nat) sc) (19 : Nat) (List.map (Value.int IntKind.u8) xs))), (31, [0, 1, 2, 3, 4, 5, 6, 7, 8, 9, 10, 11, 12, 13, 14, 15, 16, 17, 18, 19, 20, 21, 22, 23, 24, 25, 26, 27, 28, 29, 30, 31, 32, 33, 34, 35, 36, 37, 38, 39, 40, 41, 42], (RdIs (1 : Nat) (Value.slice sa (19 : Nat) sc) (19 : Nat) (List.map (Value.int IntKind.u8) xs))), (33, [0, 1, 2, 3, 4, 5, 6, 7, 8, 9, 10, 11, 12, 13, 14, 15, 16, 17, 18, 19, 20, 21, 22, 23, 24, 25, 26, 27, 28, 29, 30, 31, 32, 33, 35, 36, 37, 38, 39, 40, 41, 42], (RdIs (1 : Nat) (Value.slice sa (19 : Nat) sc) (19 : Nat) (List.map (Value.int IntKind.u8) xs))), (34, [0, 1, 2, 3, 4, 5, 6, 7, 8, 9, 10, 11, 12, 13, 14, 15, 16, 17, 18, 19, 20, 21, 22, 23, 24, 25, 26, 27, 28, 29, 30, 31, 32, 33, 34, 35, 36, 37, 38, 39, 40, 41, 42], (RdIs (1 : Nat) (Value.slice sa (19 : Nat) sc) (19 : Nat) (List.map (Value.int IntKind.u8) xs))), (36, [0, 1, 2, 3, 4, 5, 6, 7, 8, 9, 10, 11, 12, 13, 14, 15, 16, 17, 18, 19, 20, 21, 22, 23, 24, 25, 26, 27, 28, 29, 30, 31, 32, 33, 34, 35, 36, 39, 40, 41, 42], (RdIs (1 : Nat) (Value.slice sa (19 : Nat) sc) (19 : Nat) (List.map (Value.int IntKind.u8) xs))), (37, [0, 1, 2, 3, 4, 5, 6, 7, 8, 9, 10, 11, 12, 13, 14, 15, 16, 17, 18, 19, 20, 21, 22, 23, 24, 25, 26, 27, 28, 29, 30, 31, 32, 33, 34, 35, 36, 37, 39, 40, 41, 42], (RdIs (1 : Nat) (Value.slice sa (19 : Nat) sc) (19 : Nat) (List.map (Value.int IntKind.u8) xs))), (41, [0, 1, 2, 3, 4, 5, 6, 7, 8, 9, 10, 11, 12, 13, 14, 15, 16, 17, 18, 19, 20, 21, 22, 23, 24, 25, 26, 27, 28, 29, 30, 31, 32, 33, 34, 35, 36, 37, 38, 39, 40, 41], (RdIs (1 : Nat) (Value.slice sa (19 : Nat) sc) (19 : Nat) (List.map (Value.int IntKind.u8) xs))), (42, [0, 1, 2, 3, 4, 5, 6, 7, 8, 9, 10, 11, 12, 13, 14, 15, 16, 17, 18, 19, 20, 21, 22, 23, 24, 25, 26, 27, 28, 29, 30, 31, 32, 33, 34, 35, 36, 37, 38, 39, 40, 41, 42], (RdIs (1 : Nat) (Value.slice sa (19 : Nat) sc) (19 : Nat) (List.map (Value.int IntKind.u8) xs)))] (by kernel_rfl) ?_
      refine Xg.any_pure ((Value.pointer (some (Addr.mk p (0 : Nat) none)))) 0 (by kernel_rfl) rfl (by kernel_rfl) (by kernel_rfl) (by kernel_rfl) (by kernel_rfl) rfl (fun _ => by kernel_rfl) ?_
      refine Xg.any_pure ((Value.slice sa (19 : Nat) sc)) 1 (by kernel_rfl) rfl (by kernel_rfl) (by kernel_rfl) (by kernel_rfl) (by kernel_rfl) rfl (fun _ => by kernel_rfl) ?_
      refine Xg.any_reads (.pointer (some (Addr.mk (Xg.blk sa) (offA sa + (0 : Nat)) none))) 2 0 (by kernel_rfl) rfl (by kernel_rfl) (by kernel_rfl) (by kernel_rfl) (by kernel_rfl) rfl rfl (by kernel_rfl) (Xg.rd_now 0 hr (by kernel_rfl)) (Xg.run_ix_rd (elem := 5) (kd := .i64) (e := ((0 : Int))) 1 ((0 : Nat)) (offA sa + (0 : Nat)) (by kernel_rfl) (by kernel_rfl) (by kernel_rfl) (by kernel_rfl) rfl (by omega) (by simp only [List.length_map]; omega) (by omega)) ?_
      refine Xg.any_reads (Value.int IntKind.u8 (xs.getD (0 : Nat) (0 : Int))) 3 1 (by kernel_rfl) rfl (by kernel_rfl) (by kernel_rfl) (by kernel_rfl) (by kernel_rfl) rfl rfl (by kernel_rfl) (Xg.rd_now 0 hr (by kernel_rfl)) (Xg.run_load_rd (off0 := (offA sa)) ((0 : Nat)) (by kernel_rfl) (by omega) (Xg.get_ints (by omega)) (by kernel_rfl)) ?_
      refine Xg.any_pure ((Value.slice sa (19 : Nat) sc)) 4 (by kernel_rfl) rfl (by kernel_rfl) (by kernel_rfl) (by kernel_rfl) (by kernel_rfl) rfl (fun _ => by kernel_rfl) ?_
      refine Xg.any_reads (.pointer (some (Addr.mk (Xg.blk sa) (offA sa + (1 : Nat)) none))) 5 2 (by kernel_rfl) rfl (by kernel_rfl) (by kernel_rfl) (by kernel_rfl) (by kernel_rfl) rfl rfl (by kernel_rfl) (Xg.rd_now 0 hr (by kernel_rfl)) (Xg.run_ix_rd (elem := 5) (kd := .i64) (e := ((1 : Int))) 1 ((1 : Nat)) (offA sa + (1 : Nat)) (by kernel_rfl) (by kernel_rfl) (by kernel_rfl) (by kernel_rfl) rfl (by omega) (by simp only [List.length_map]; omega) (by omega)) ?_
      refine Xg.any_reads (Value.int IntKind.u8 (xs.getD (1 : Nat) (0 : Int))) 6 3 (by kernel_rfl) rfl (by kernel_rfl) (by kernel_rfl) (by kernel_rfl) (by kernel_rfl) rfl rfl (by kernel_rfl) (Xg.rd_now 0 hr (by kernel_rfl)) (Xg.run_load_rd (off0 := (offA sa + (1 : Nat))) ((1 : Nat)) (by kernel_rfl) (by omega) (Xg.get_ints (by omega)) (by kernel_rfl)) ?_
      refine Xg.any_pure ((Value.slice sa (19 : Nat) sc)) 7 (by kernel_rfl) rfl (by kernel_rfl) (by kernel_rfl) (by kernel_rfl) (by kernel_rfl) rfl (fun _ => by kernel_rfl) ?_
      refine Xg.any_reads (.pointer (some (Addr.mk (Xg.blk sa) (offA sa + (2 : Nat)) none))) 8 4 (by kernel_rfl) rfl (by kernel_rfl) (by kernel_rfl) (by kernel_rfl) (by kernel_rfl) rfl rfl (by kernel_rfl) (Xg.rd_now 0 hr (by kernel_rfl)) (Xg.run_ix_rd (elem := 5) (kd := .i64) (e := ((2 : Int))) 1 ((2 : Nat)) (offA sa + (2 : Nat)) (by kernel_rfl) (by kernel_rfl) (by kernel_rfl) (by kernel_rfl) rfl (by omega) (by simp only [List.length_map]; omega) (by omega)) ?_
      refine Xg.any_reads (Value.int IntKind.u8 (xs.getD (2 : Nat) (0 : Int))) 9 5 (by kernel_rfl) rfl (by kernel_rfl) (by kernel_rfl) (by kernel_rfl) (by kernel_rfl) rfl rfl (by kernel_rfl) (Xg.rd_now 0 hr (by kernel_rfl)) (Xg.run_load_rd (off0 := (offA sa + (2 : Nat))) ((2 : Nat)) (by kernel_rfl) (by omega) (Xg.get_ints (by omega)) (by kernel_rfl)) ?_
      refine Xg.any_pure ((Value.slice sa (19 : Nat) sc)) 10 (by kernel_rfl) rfl (by kernel_rfl) (by kernel_rfl) (by kernel_rfl) (by kernel_rfl) rfl (fun _ => by kernel_rfl) ?_
      refine Xg.any_reads (.pointer (some (Addr.mk (Xg.blk sa) (offA sa + (3 : Nat)) none))) 11 7 (by kernel_rfl) rfl (by kernel_rfl) (by kernel_rfl) (by kernel_rfl) (by kernel_rfl) rfl rfl (by kernel_rfl) (Xg.rd_now 0 hr (by kernel_rfl)) (Xg.run_ix_rd (elem := 5) (kd := .i64) (e := ((3 : Int))) 1 ((3 : Nat)) (offA sa + (3 : Nat)) (by kernel_rfl) (by kernel_rfl) (by kernel_rfl) (by kernel_rfl) rfl (by omega) (by simp only [List.length_map]; omega) (by omega)) ?_
      refine Xg.any_reads (Value.int IntKind.u8 (xs.getD (3 : Nat) (0 : Int))) 12 8 (by kernel_rfl) rfl (by kernel_rfl) (by kernel_rfl) (by kernel_rfl) (by kernel_rfl) rfl rfl (by kernel_rfl) (Xg.rd_now 0 hr (by kernel_rfl)) (Xg.run_load_rd (off0 := (offA sa + (3 : Nat))) ((3 : Nat)) (by kernel_rfl) (by omega) (Xg.get_ints (by omega)) (by kernel_rfl)) ?_
      refine Xg.any_pure ((Value.slice sa (19 : Nat) sc)) 13 (by kernel_rfl) rfl (by kernel_rfl) (by kernel_rfl) (by kernel_rfl) (by kernel_rfl) rfl (fun _ => by kernel_rfl) ?_
      refine Xg.any_reads (.pointer (some (Addr.mk (Xg.blk sa) (offA sa + (4 : Nat)) none))) 14 9 (by kernel_rfl) rfl (by kernel_rfl) (by kernel_rfl) (by kernel_rfl) (by kernel_rfl) rfl rfl (by kernel_rfl) (Xg.rd_now 0 hr (by kernel_rfl)) (Xg.run_ix_rd (elem := 5) (kd := .i64) (e := ((4 : Int))) 1 ((4 : Nat)) (offA sa + (4 : Nat)) (by kernel_rfl) (by kernel_rfl) (by kernel_rfl) (by kernel_rfl) rfl (by omega) (by simp only [List.length_map]; omega) (by omega)) ?_
      refine Xg.any_reads (Value.int IntKind.u8 (xs.getD (4 : Nat) (0 : Int))) 15 10 (by kernel_rfl) rfl (by kernel_rfl) (by kernel_rfl) (by kernel_rfl) (by kernel_rfl) rfl rfl (by kernel_rfl) (Xg.rd_now 0 hr (by kernel_rfl)) (Xg.run_load_rd (off0 := (offA sa + (4 : Nat))) ((4 : Nat)) (by kernel_rfl) (by omega) (Xg.get_ints (by omega)) (by kernel_rfl)) ?_
      refine Xg.any_int .u16 (IntKind.wrap .u16 ((xs.getD (4 : Nat) (0 : Int)))) 16 (by kernel_rfl) rfl (by kernel_rfl) (by kernel_rfl) (by kernel_rfl) (by kernel_rfl) rfl (fun _ => by kernel_rfl) (Xg.wrap_u16_mod _) ?_
      refine Xg.any_pure ((Value.slice sa (19 : Nat) sc)) 17 (by kernel_rfl) rfl (by kernel_rfl) (by kernel_rfl) (by kernel_rfl) (by kernel_rfl) rfl (fun _ => by kernel_rfl) ?_
      refine Xg.any_reads (.pointer (some (Addr.mk (Xg.blk sa) (offA sa + (5 : Nat)) none))) 18 11 (by kernel_rfl) rfl (by kernel_rfl) (by kernel_rfl) (by kernel_rfl) (by kernel_rfl) rfl rfl (by kernel_rfl) (Xg.rd_now 0 hr (by kernel_rfl)) (Xg.run_ix_rd (elem := 5) (kd := .i64) (e := ((5 : Int))) 1 ((5 : Nat)) (offA sa + (5 : Nat)) (by kernel_rfl) (by kernel_rfl) (by kernel_rfl) (by kernel_rfl) rfl (by omega) (by simp only [List.length_map]; omega) (by omega)) ?_
      refine Xg.any_reads (Value.int IntKind.u8 (xs.getD (5 : Nat) (0 : Int))) 19 12 (by kernel_rfl) rfl (by kernel_rfl) (by kernel_rfl) (by kernel_rfl) (by kernel_rfl) rfl rfl (by kernel_rfl) (Xg.rd_now 0 hr (by kernel_rfl)) (Xg.run_load_rd (off0 := (offA sa + (5 : Nat))) ((5 : Nat)) (by kernel_rfl) (by omega) (Xg.get_ints (by omega)) (by kernel_rfl)) ?_
      refine Xg.any_int .u16 (IntKind.wrap .u16 ((xs.getD (5 : Nat) (0 : Int)))) 20 (by kernel_rfl) rfl (by kernel_rfl) (by kernel_rfl) (by kernel_rfl) (by kernel_rfl) rfl (fun _ => by kernel_rfl) (Xg.wrap_u16_mod _) ?_
      refine Xg.any_int .u16 (IntKind.wrap .u16 ((xs.getD (5 : Nat) (0 : Int) % (65536 : Int) * (256 : Int)))) 21 (by kernel_rfl) rfl (by kernel_rfl) (by kernel_rfl) (by kernel_rfl) (by kernel_rfl) rfl (fun _ => by kernel_rfl) (Xg.wrap_u16_mod _) ?_
      refine Xg.any_pure (.int .u16 (Xg.bor .u16 ((xs.getD (4 : Nat) (0 : Int) % (65536 : Int))) ((xs.getD (5 : Nat) (0 : Int) % (65536 : Int) * (256 : Int) % (65536 : Int))))) 22 (by kernel_rfl) rfl (by kernel_rfl) (by kernel_rfl) (by kernel_rfl) (by kernel_rfl) rfl (fun _ => by kernel_rfl) ?_
      refine Xg.any_pure ((Value.slice sa (19 : Nat) sc)) 23 (by kernel_rfl) rfl (by kernel_rfl) (by kernel_rfl) (by kernel_rfl) (by kernel_rfl) rfl (fun _ => by kernel_rfl) ?_
      refine Xg.any_reads (.pointer (some (Addr.mk (Xg.blk sa) (offA sa + (6 : Nat)) none))) 24 13 (by kernel_rfl) rfl (by kernel_rfl) (by kernel_rfl) (by kernel_rfl) (by kernel_rfl) rfl rfl (by kernel_rfl) (Xg.rd_now 0 hr (by kernel_rfl)) (Xg.run_ix_rd (elem := 5) (kd := .i64) (e := ((6 : Int))) 1 ((6 : Nat)) (offA sa + (6 : Nat)) (by kernel_rfl) (by kernel_rfl) (by kernel_rfl) (by kernel_rfl) rfl (by omega) (by simp only [List.length_map]; omega) (by omega)) ?_
      refine Xg.any_reads (Value.int IntKind.u8 (xs.getD (6 : Nat) (0 : Int))) 25 14 (by kernel_rfl) rfl (by kernel_rfl) (by kernel_rfl) (by kernel_rfl) (by kernel_rfl) rfl rfl (by kernel_rfl) (Xg.rd_now 0 hr (by kernel_rfl)) (Xg.run_load_rd (off0 := (offA sa + (6 : Nat))) ((6 : Nat)) (by kernel_rfl) (by omega) (Xg.get_ints (by omega)) (by kernel_rfl)) ?_
      refine Xg.any_pure ((Value.slice sa (19 : Nat) sc)) 26 (by kernel_rfl) rfl (by kernel_rfl) (by kernel_rfl) (by kernel_rfl) (by kernel_rfl) rfl (fun _ => by kernel_rfl) ?_
      refine Xg.any_reads (.pointer (some (Addr.mk (Xg.blk sa) (offA sa + (7 : Nat)) none))) 27 15 (by kernel_rfl) rfl (by kernel_rfl) (by kernel_rfl) (by kernel_rfl) (by kernel_rfl) rfl rfl (by kernel_rfl) (Xg.rd_now 0 hr (by kernel_rfl)) (Xg.run_ix_rd (elem := 5) (kd := .i64) (e := ((7 : Int))) 1 ((7 : Nat)) (offA sa + (7 : Nat)) (by kernel_rfl) (by kernel_rfl) (by kernel_rfl) (by kernel_rfl) rfl (by omega) (by simp only [List.length_map]; omega) (by omega)) ?_
      refine Xg.any_reads (Value.int IntKind.u8 (xs.getD (7 : Nat) (0 : Int))) 28 16 (by kernel_rfl) rfl (by kernel_rfl) (by kernel_rfl) (by kernel_rfl) (by kernel_rfl) rfl rfl (by kernel_rfl) (Xg.rd_now 0 hr (by kernel_rfl)) (Xg.run_load_rd (off0 := (offA sa + (7 : Nat))) ((7 : Nat)) (by kernel_rfl) (by omega) (Xg.get_ints (by omega)) (by kernel_rfl)) ?_
      refine Xg.any_pure ((Value.slice sa (19 : Nat) sc)) 29 (by kernel_rfl) rfl (by kernel_rfl) (by kernel_rfl) (by kernel_rfl) (by kernel_rfl) rfl (fun _ => by kernel_rfl) ?_
      refine Xg.any_reads (.pointer (some (Addr.mk (Xg.blk sa) (offA sa + (8 : Nat)) none))) 30 17 (by kernel_rfl) rfl (by kernel_rfl) (by kernel_rfl) (by kernel_rfl) (by kernel_rfl) rfl rfl (by kernel_rfl) (Xg.rd_now 0 hr (by kernel_rfl)) (Xg.run_ix_rd (elem := 5) (kd := .i64) (e := ((8 : Int))) 1 ((8 : Nat)) (offA sa + (8 : Nat)) (by kernel_rfl) (by kernel_rfl) (by kernel_rfl) (by kernel_rfl) rfl (by omega) (by simp only [List.length_map]; omega) (by omega)) ?_
      refine Xg.any_reads (Value.int IntKind.u8 (xs.getD (8 : Nat) (0 : Int))) 31 18 (by kernel_rfl) rfl (by kernel_rfl) (by kernel_rfl) (by kernel_rfl) (by kernel_rfl) rfl rfl (by kernel_rfl) (Xg.rd_now 0 hr (by kernel_rfl)) (Xg.run_load_rd (off0 := (offA sa + (8 : Nat))) ((8 : Nat)) (by kernel_rfl) (by omega) (Xg.get_ints (by omega)) (by kernel_rfl)) ?_
      refine Xg.any_pure ((Value.slice sa (19 : Nat) sc)) 32 (by kernel_rfl) rfl (by kernel_rfl) (by kernel_rfl) (by kernel_rfl) (by kernel_rfl) rfl (fun _ => by kernel_rfl) ?_
      refine Xg.any_reads (.pointer (some (Addr.mk (Xg.blk sa) (offA sa + (9 : Nat)) none))) 33 19 (by kernel_rfl) rfl (by kernel_rfl) (by kernel_rfl) (by kernel_rfl) (by kernel_rfl) rfl rfl (by kernel_rfl) (Xg.rd_now 0 hr (by kernel_rfl)) (Xg.run_ix_rd (elem := 5) (kd := .i64) (e := ((9 : Int))) 1 ((9 : Nat)) (offA sa + (9 : Nat)) (by kernel_rfl) (by kernel_rfl) (by kernel_rfl) (by kernel_rfl) rfl (by omega) (by simp only [List.length_map]; omega) (by omega)) ?_
      refine Xg.any_reads (Value.int IntKind.u8 (xs.getD (9 : Nat) (0 : Int))) 34 20 (by kernel_rfl) rfl (by kernel_rfl) (by kernel_rfl) (by kernel_rfl) (by kernel_rfl) rfl rfl (by kernel_rfl) (Xg.rd_now 0 hr (by kernel_rfl)) (Xg.run_load_rd (off0 := (offA sa + (9 : Nat))) ((9 : Nat)) (by kernel_rfl) (by omega) (Xg.get_ints (by omega)) (by kernel_rfl)) ?_
      refine Xg.any_pure ((Value.slice sa (19 : Nat) sc)) 35 (by kernel_rfl) rfl (by kernel_rfl) (by kernel_rfl) (by kernel_rfl) (by kernel_rfl) rfl (fun _ => by kernel_rfl) ?_
      refine Xg.any_reads (.pointer (some (Addr.mk (Xg.blk sa) (offA sa + (10 : Nat)) none))) 36 21 (by kernel_rfl) rfl (by kernel_rfl) (by kernel_rfl) (by kernel_rfl) (by kernel_rfl) rfl rfl (by kernel_rfl) (Xg.rd_now 0 hr (by kernel_rfl)) (Xg.run_ix_rd (elem := 5) (kd := .i64) (e := ((10 : Int))) 1 ((10 : Nat)) (offA sa + (10 : Nat)) (by kernel_rfl) (by kernel_rfl) (by kernel_rfl) (by kernel_rfl) rfl (by omega) (by simp only [List.length_map]; omega) (by omega)) ?_
      refine Xg.any_reads (Value.int IntKind.u8 (xs.getD (10 : Nat) (0 : Int))) 37 22 (by kernel_rfl) rfl (by kernel_rfl) (by kernel_rfl) (by kernel_rfl) (by kernel_rfl) rfl rfl (by kernel_rfl) (Xg.rd_now 0 hr (by kernel_rfl)) (Xg.run_load_rd (off0 := (offA sa + (10 : Nat))) ((10 : Nat)) (by kernel_rfl) (by omega) (Xg.get_ints (by omega)) (by kernel_rfl)) ?_
      refine Xg.any_int .i64 (IntKind.wrap .i64 ((xs.getD (10 : Nat) (0 : Int)))) 38 (by kernel_rfl) rfl (by kernel_rfl) (by kernel_rfl) (by kernel_rfl) (by kernel_rfl) rfl (fun _ => by kernel_rfl) (Xg.wrap_i64_in (by omega)) ?_
      refine Xg.any_pure ((Value.int IntKind.i64 (bor IntKind.i64 (xs.getD (11 : Nat) (0 : Int)) (xs.getD (12 : Nat) (0 : Int) * (256 : Int))))) 39 (by kernel_rfl) rfl (by kernel_rfl) (by kernel_rfl) (by kernel_rfl) (by kernel_rfl) rfl (fun _ => by kernel_rfl) ?_
      refine Xg.any_pure ((Value.slice sa (19 : Nat) sc)) 40 (by kernel_rfl) rfl (by kernel_rfl) (by kernel_rfl) (by kernel_rfl) (by kernel_rfl) rfl (fun _ => by kernel_rfl) ?_
      refine Xg.any_reads (.pointer (some (Addr.mk (Xg.blk sa) (offA sa + (13 : Nat)) none))) 41 23 (by kernel_rfl) rfl (by kernel_rfl) (by kernel_rfl) (by kernel_rfl) (by kernel_rfl) rfl rfl (by kernel_rfl) (Xg.rd_now 0 hr (by kernel_rfl)) (Xg.run_ix_rd (elem := 5) (kd := .i64) (e := ((13 : Int))) 1 ((13 : Nat)) (offA sa + (13 : Nat)) (by kernel_rfl) (by kernel_rfl) (by kernel_rfl) (by kernel_rfl) rfl (by omega) (by simp only [List.length_map]; omega) (by omega)) ?_
      refine Xg.any_reads (Value.int IntKind.u8 (xs.getD (13 : Nat) (0 : Int))) 42 24 (by kernel_rfl) rfl (by kernel_rfl) (by kernel_rfl) (by kernel_rfl) (by kernel_rfl) rfl rfl (by kernel_rfl) (Xg.rd_now 0 hr (by kernel_rfl)) (Xg.run_load_rd (off0 := (offA sa + (13 : Nat))) ((13 : Nat)) (by kernel_rfl) (by omega) (Xg.get_ints (by omega)) (by kernel_rfl)) ?_
      refine Xg.any_pure ((Value.agg #[Value.int IntKind.u8 (xs.getD (0 : Nat) (0 : Int)), Value.int IntKind.u8 (xs.getD (1 : Nat) (0 : Int)), Value.int IntKind.u8 (xs.getD (2 : Nat) (0 : Int)), Value.int IntKind.u8 (xs.getD (3 : Nat) (0 : Int)), Value.int IntKind.u16 (bor IntKind.u16 (xs.getD (4 : Nat) (0 : Int) % (65536 : Int)) (xs.getD (5 : Nat) (0 : Int) % (65536 : Int) * (256 : Int) % (65536 : Int))), Value.int IntKind.u8 (xs.getD (6 : Nat) (0 : Int)), Value.int IntKind.u8 (xs.getD (7 : Nat) (0 : Int)), Value.int IntKind.u8 (xs.getD (8 : Nat) (0 : Int)), Value.int IntKind.u8 (xs.getD (9 : Nat) (0 : Int)), Value.int IntKind.i64 (xs.getD (10 : Nat) (0 : Int)), Value.int IntKind.i64 (bor IntKind.i64 (xs.getD (11 : Nat) (0 : Int)) (xs.getD (12 : Nat) (0 : Int) * (256 : Int))), Value.int IntKind.u8 (xs.getD (13 : Nat) (0 : Int)), Value.slice none (0 : Nat) (0 : Nat)])) 43 (by kernel_rfl) rfl (by kernel_rfl) (by kernel_rfl) (by kernel_rfl) (by kernel_rfl) rfl (fun _ => by kernel_rfl) ?_
      refine Xg.any_pure ((Value.pointer (some (Addr.mk p (0 : Nat) none)))) 44 (by kernel_rfl) rfl (by kernel_rfl) (by kernel_rfl) (by kernel_rfl) (by kernel_rfl) rfl (fun _ => by kernel_rfl) ?_
      refine Xg.any_each [45] (by kernel_rfl) rfl ⟨?_, trivial⟩
      refine Xg.comes_act rfl (by kernel_rfl) (by kernel_rfl) (Xg.opx_storen 13 (off := 0) 1 [Value.int IntKind.u8 (xs.getD (0 : Nat) (0 : Int)), Value.int IntKind.u8 (xs.getD (1 : Nat) (0 : Int)), Value.int IntKind.u8 (xs.getD (2 : Nat) (0 : Int)), Value.int IntKind.u8 (xs.getD (3 : Nat) (0 : Int)), Value.int IntKind.u16 (bor IntKind.u16 (xs.getD (4 : Nat) (0 : Int) % (65536 : Int)) (xs.getD (5 : Nat) (0 : Int) % (65536 : Int) * (256 : Int) % (65536 : Int))), Value.int IntKind.u8 (xs.getD (6 : Nat) (0 : Int)), Value.int IntKind.u8 (xs.getD (7 : Nat) (0 : Int)), Value.int IntKind.u8 (xs.getD (8 : Nat) (0 : Int)), Value.int IntKind.u8 (xs.getD (9 : Nat) (0 : Int)), Value.int IntKind.i64 (xs.getD (10 : Nat) (0 : Int)), Value.int IntKind.i64 (bor IntKind.i64 (xs.getD (11 : Nat) (0 : Int)) (xs.getD (12 : Nat) (0 : Int) * (256 : Int))), Value.int IntKind.u8 (xs.getD (13 : Nat) (0 : Int)), Value.slice none (0 : Nat) (0 : Nat)] (by kernel_rfl) rfl (by kernel_rfl) (by kernel_rfl) rfl (by kernel_rfl) (Nat.le_of_ble_eq_true (by kernel_rfl)) ?_)
      refine Xg.acts (Xg.owes_skip (by kernel_rfl) (Xg.owes_skip (by kernel_rfl) (Xg.owes_skip (by kernel_rfl) (Xg.owes_skip (by kernel_rfl) (Xg.owes_skip (by kernel_rfl) (Xg.owes_skip (by kernel_rfl) (Xg.owes_skip (by kernel_rfl) (Xg.owes_skip (by kernel_rfl) (Xg.owes_skip (by kernel_rfl) (Xg.owes_skip (by kernel_rfl) (Xg.owes_skip (by kernel_rfl) (Xg.owes_skip (by kernel_rfl) (Xg.owes_skip (by kernel_rfl) (Xg.owes_skip (by kernel_rfl) (Xg.owes_skip (by kernel_rfl) (Xg.owes_skip (by kernel_rfl) (Xg.owes_skip (by kernel_rfl) (Xg.owes_skip (by kernel_rfl) (Xg.owes_skip (by kernel_rfl) (Xg.owes_skip (by kernel_rfl) (Xg.owes_skip (by kernel_rfl) (Xg.owes_skip (by kernel_rfl) (Xg.owes_skip (by kernel_rfl) (Xg.owes_skip (by kernel_rfl) (Xg.owes_skip (by kernel_rfl) Xg.owes_nil))))))))))))))))))))))))) ?_
      refine Xg.any_nil (by kernel_rfl) ?_
      refine Xg.at_seq ?_
      refine Xg.at_region ?_
      refine Xg.ops_op (by kernel_rfl) (Xg.opx_pure ((Value.int IntKind.i64 (0 : Int))) rfl (fun _ => by kernel_rfl) ?_)
      refine Xg.ops_nil ?_
      refine Xg.at_ret_ps (v := (Value.int IntKind.i64 (0 : Int))) [1, 0] [row p (60 : TypeId) [Value.int IntKind.u8 (xs.getD (0 : Nat) (0 : Int)), Value.int IntKind.u8 (xs.getD (1 : Nat) (0 : Int)), Value.int IntKind.u8 (xs.getD (2 : Nat) (0 : Int)), Value.int IntKind.u8 (xs.getD (3 : Nat) (0 : Int)), Value.int IntKind.u16 (bor IntKind.u16 (xs.getD (4 : Nat) (0 : Int) % (65536 : Int)) (xs.getD (5 : Nat) (0 : Int) % (65536 : Int) * (256 : Int) % (65536 : Int))), Value.int IntKind.u8 (xs.getD (6 : Nat) (0 : Int)), Value.int IntKind.u8 (xs.getD (7 : Nat) (0 : Int)), Value.int IntKind.u8 (xs.getD (8 : Nat) (0 : Int)), Value.int IntKind.u8 (xs.getD (9 : Nat) (0 : Int)), Value.int IntKind.i64 (xs.getD (10 : Nat) (0 : Int)), Value.int IntKind.i64 (bor IntKind.i64 (xs.getD (11 : Nat) (0 : Int)) (xs.getD (12 : Nat) (0 : Int) * (256 : Int))), Value.int IntKind.u8 (xs.getD (13 : Nat) (0 : Int)), Value.slice none (0 : Nat) (0 : Nat)], A] Go.Proofs.Tryd.func24 (fun _ => by kernel_rfl) (by kernel_rfl) (by kernel_rfl) ?_
      rotate_left
      refine Xg.ops_op (by kernel_rfl) (Xg.opx_eq (v := ((Value.bool !decide (bor IntKind.i64 (xs.getD (11 : Nat) (0 : Int)) (xs.getD (12 : Nat) (0 : Int) * (256 : Int)) > (0 : Int)) == false))) (.bool (decide (bor IntKind.i64 (xs.getD (11 : Nat) (0 : Int)) (xs.getD (12 : Nat) (0 : Int) * (256 : Int)) > (0 : Int)))) rfl (fun _ => by kernel_rfl) (by generalize ((decide (bor IntKind.i64 (xs.getD (11 : Nat) (0 : Int)) (xs.getD (12 : Nat) (0 : Int) * (256 : Int)) > (0 : Int))) : Bool) = bb; cases bb <;> rfl) ?_)
      refine Xg.ops_flag (j := 62) (c := (decide (bor IntKind.i64 (xs.getD (11 : Nat) (0 : Int)) (xs.getD (12 : Nat) (0 : Int) * (256 : Int)) > (0 : Int)))) (by kernel_rfl) (fun xh8 => ?_) (fun xh8 => ?_)
      replace xh8 : (bor IntKind.i64 (xs.getD (11 : Nat) (0 : Int)) (xs.getD (12 : Nat) (0 : Int) * (256 : Int)) > (0 : Int)) := of_decide_eq_true xh8
      rotate_left
      replace xh8 : ¬ ((bor IntKind.i64 (xs.getD (11 : Nat) (0 : Int)) (xs.getD (12 : Nat) (0 : Int) * (256 : Int)) > (0 : Int))) := of_decide_eq_false xh8
      rotate_right
      refine Xg.ops_op (by kernel_rfl) (Xg.opx_pure ((Value.bool true)) rfl (fun _ => by kernel_rfl) ?_)
      refine Xg.ops_op (by kernel_rfl) (Xg.opx_pure ((Value.bool true)) rfl (fun _ => by kernel_rfl) ?_)
      refine Xg.ops_skip (by kernel_rfl) ?_
      refine Xg.ops_skip (by kernel_rfl) ?_
      refine Xg.ops_skip (by kernel_rfl) ?_
      refine Xg.ops_skip (by kernel_rfl) ?_
      refine Xg.ops_skip (by kernel_rfl) ?_
      refine Xg.ops_skip (by kernel_rfl) ?_
      refine Xg.ops_skip (by kernel_rfl) ?_
      refine Xg.ops_skip (by kernel_rfl) ?_
      refine Xg.ops_op (by kernel_rfl) (Xg.opx_pure ((Value.bool true)) rfl (fun _ => by kernel_rfl) ?_)
      refine Xg.ops_op (by kernel_rfl) (Xg.opx_pure ((Value.bool true)) rfl (fun _ => by kernel_rfl) ?_)
      refine Xg.ops_skip (by kernel_rfl) ?_
      refine Xg.ops_skip (by kernel_rfl) ?_
      refine Xg.ops_skip (by kernel_rfl) ?_
      refine Xg.ops_op (by kernel_rfl) (Xg.opx_pure ((Value.bool true)) rfl (fun _ => by kernel_rfl) ?_)
      refine Xg.ops_nil ?_
      refine Xg.at_true (t := true) (by kernel_rfl) rfl ?_
      refine Xg.at_seq ?_
      refine Xg.at_region ?_
      refine Xg.ops_op (by kernel_rfl) (Xg.opx_pure ((Value.int IntKind.i64 (52 : Int))) rfl (fun _ => by kernel_rfl) ?_)
      refine Xg.ops_nil ?_
      refine Xg.at_ret_ps (v := (Value.int IntKind.i64 (52 : Int))) [0, 1] [PoR p σ s, A] Go.Proofs.Tryd.func24 (fun _ => by kernel_rfl) (by kernel_rfl) (by kernel_rfl) ?_
      exact ⟨by kernel_rfl, by kernel_rfl⟩
      refine Xg.ops_op (by kernel_rfl) (Xg.opx_pure ((Value.bool false)) rfl (fun _ => by kernel_rfl) ?_)
      refine Xg.ops_op (by kernel_rfl) (Xg.opx_pure ((Value.bool false)) rfl (fun _ => by kernel_rfl) ?_)
      refine Xg.ops_op (by kernel_rfl) (Xg.opx_pure ((Value.int IntKind.i64 (bor IntKind.i64 (xs.getD (11 : Nat) (0 : Int)) (xs.getD (12 : Nat) (0 : Int) * (256 : Int))))) rfl (fun _ => by kernel_rfl) ?_)
      refine Xg.ops_op (by kernel_rfl) (Xg.opx_pure (.bool (decide (((bor IntKind.i64 (xs.getD (11 : Nat) (0 : Int)) (xs.getD (12 : Nat) (0 : Int) * (256 : Int))) : Int) = ((0 : Int))))) rfl (fun _ => by kernel_rfl) ?_)
      refine Xg.ops_op (by kernel_rfl) (Xg.opx_pure ((Value.bool (decide (bor IntKind.i64 (xs.getD (11 : Nat) (0 : Int)) (xs.getD (12 : Nat) (0 : Int) * (256 : Int)) = (0 : Int))))) rfl (fun _ => by kernel_rfl) ?_)
      refine Xg.ops_flag (j := 67) (c := (decide (bor IntKind.i64 (xs.getD (11 : Nat) (0 : Int)) (xs.getD (12 : Nat) (0 : Int) * (256 : Int)) = (0 : Int)))) (by kernel_rfl) (fun _ => ?_) (fun xh9 => absurd (of_decide_eq_false xh9) (by omega))
      refine Xg.ops_op (by kernel_rfl) (Xg.opx_pure ((Value.slice sa (19 : Nat) sc)) rfl (fun _ => by kernel_rfl) ?_)
      refine Xg.ops_op (by kernel_rfl) (Xg.opx_rd 1 (.pointer (some (Addr.mk (Xg.blk sa) (offA sa + (13 : Nat)) none))) rfl hr (by kernel_rfl) (Xg.run_ix_rd (elem := 5) (kd := .i64) (e := ((13 : Int))) 1 ((13 : Nat)) (offA sa + (13 : Nat)) (by kernel_rfl) (by kernel_rfl) (by kernel_rfl) (by kernel_rfl) rfl (by omega) (by simp only [List.length_map]; omega) (by omega)) ?_)
      refine Xg.ops_op (by kernel_rfl) (Xg.opx_rd 1 (Value.int IntKind.u8 (xs.getD (13 : Nat) (0 : Int))) rfl hr (by kernel_rfl) (Xg.run_load_rd (off0 := (offA sa + (13 : Nat))) ((13 : Nat)) (by kernel_rfl) (by omega) (Xg.get_ints (by omega)) (by kernel_rfl)) ?_)
      refine Xg.ops_op (by kernel_rfl) (Xg.opx_pure (.bool (!decide (((xs.getD (13 : Nat) (0 : Int)) : Int) = ((0 : Int))))) rfl (fun _ => by kernel_rfl) ?_)
      refine Xg.ops_flag (j := 71) (c := (!decide (xs.getD (13 : Nat) (0 : Int) = (0 : Int)))) (by kernel_rfl) (fun xh9 => ?_) (fun xh9 => ?_)
      replace xh9 : ¬ ((xs.getD (13 : Nat) (0 : Int) = (0 : Int))) := by simpa using xh9
      rotate_left
      replace xh9 : (xs.getD (13 : Nat) (0 : Int) = (0 : Int)) := by simpa using xh9
      rotate_right
      refine Xg.ops_op (by kernel_rfl) (Xg.opx_pure ((Value.bool true)) rfl (fun _ => by kernel_rfl) ?_)
      refine Xg.ops_op (by kernel_rfl) (Xg.opx_pure ((Value.bool true)) rfl (fun _ => by kernel_rfl) ?_)
      refine Xg.ops_op (by kernel_rfl) (Xg.opx_pure ((Value.bool true)) rfl (fun _ => by kernel_rfl) ?_)
      refine Xg.ops_skip (by kernel_rfl) ?_
      refine Xg.ops_skip (by kernel_rfl) ?_
      refine Xg.ops_skip (by kernel_rfl) ?_
      refine Xg.ops_op (by kernel_rfl) (Xg.opx_pure ((Value.bool true)) rfl (fun _ => by kernel_rfl) ?_)
      refine Xg.ops_nil ?_
      refine Xg.at_true (t := true) (by kernel_rfl) rfl ?_
      refine Xg.at_seq ?_
      refine Xg.at_region ?_
      refine Xg.ops_op (by kernel_rfl) (Xg.opx_pure ((Value.int IntKind.i64 (52 : Int))) rfl (fun _ => by kernel_rfl) ?_)
      refine Xg.ops_nil ?_
      refine Xg.at_ret_ps (v := (Value.int IntKind.i64 (52 : Int))) [0, 1] [PoR p σ s, A] Go.Proofs.Tryd.func24 (fun _ => by kernel_rfl) (by kernel_rfl) (by kernel_rfl) ?_
      exact ⟨by kernel_rfl, by kernel_rfl⟩
      refine Xg.ops_op (by kernel_rfl) (Xg.opx_pure ((Value.bool false)) rfl (fun _ => by kernel_rfl) ?_)
      refine Xg.ops_op (by kernel_rfl) (Xg.opx_pure ((Value.bool false)) rfl (fun _ => by kernel_rfl) ?_)
      refine Xg.ops_op (by kernel_rfl) (Xg.opx_pure ((Value.bool false)) rfl (fun _ => by kernel_rfl) ?_)
      refine Xg.ops_op (by kernel_rfl) (Xg.opx_pure ((Value.slice sa (19 : Nat) sc)) rfl (fun _ => by kernel_rfl) ?_)
      refine Xg.ops_op (by kernel_rfl) (Xg.opx_run (.slice (Xg.subA sa sc ((14 : Nat)) 1) (((19 : Nat)) - ((14 : Nat))) (sc - ((14 : Nat)))) rfl (Xg.run_sl_lo (elem := 5) (a := sa) (c := sc) (len := ((19 : Nat))) (k1 := .i64) (e1 := ((14 : Int))) 1 ((14 : Nat)) (by kernel_rfl) (by kernel_rfl) (by kernel_rfl) (by kernel_rfl) rfl (by omega)) ?_)
      refine Xg.ops_op (by kernel_rfl) (Xg.opx_callE' [1] (fun xx1 => [A, PoR p σ s]) (fun _ => by kernel_rfl) (@Go.Proofs.YtncdmccdclhokaaDoor.containsf_d (A) ((subA sa sc (14 : Nat) (1 : Nat))) (((5 : Nat))) ((sc - (14 : Nat))) ((List.drop (14 : Nat) xs)) (by omega) (by omega) (by omega) (by omega)) (by kernel_rfl) (by kernel_rfl) (by kernel_rfl) fun xx1 xh10 => ?_)
      try dsimp only at xh10
      refine Xg.ops_flag (j := 77) (c := xx1) (by kernel_rfl) (fun xh11 => ?_) (fun xh11 => ?_)
      refine Xg.ops_op (by kernel_rfl) (Xg.opx_pure ((Value.bool true)) rfl (fun _ => by kernel_rfl) ?_)
      refine Xg.ops_nil ?_
      refine Xg.at_true (t := true) (by kernel_rfl) rfl ?_
      refine Xg.at_seq ?_
      refine Xg.at_region ?_
      refine Xg.ops_op (by kernel_rfl) (Xg.opx_pure ((Value.int IntKind.i64 (52 : Int))) rfl (fun _ => by kernel_rfl) ?_)
      refine Xg.ops_nil ?_
      refine Xg.at_ret_ps (v := (Value.int IntKind.i64 (52 : Int))) [1, 0] [PoR p σ s, A] Go.Proofs.Tryd.func24 (fun _ => by kernel_rfl) (by kernel_rfl) (by kernel_rfl) ?_
      exact ⟨by kernel_rfl, by kernel_rfl⟩
      refine Xg.ops_op (by kernel_rfl) (Xg.opx_pure ((Value.bool false)) rfl (fun _ => by kernel_rfl) ?_)
      refine Xg.ops_nil ?_
      refine Xg.at_false (t := false) (by kernel_rfl) rfl ?_
      refine Xg.at_skip ?_
      refine Xg.at_seq ?_
      refine Xg.at_draw [45] [(2, [0, 1, 2, 4, 5, 6, 7, 8, 9, 10, 11, 12, 13, 14, 15, 16, 17, 18, 19, 20, 21, 22, 23, 24, 25, 26, 27, 28, 29, 30, 31, 32, 33, 34, 35, 36, 37, 38, 39, 40, 41, 42], (RdIs (1 : Nat) (Value.slice sa (19 : Nat) sc) (19 : Nat) (List.map (Value.int IntKind.u8) xs))), (3, [0, 1, 2, 3, 4, 5, 6, 7, 8, 9, 10, 11, 12, 13, 14, 15, 16, 17, 18, 19, 20, 21, 22, 23, 24, 25, 26, 27, 28, 29, 30, 31, 32, 33, 34, 35, 36, 37, 38, 39, 40, 41, 42], (RdIs (1 : Nat) (Value.slice sa (19 : Nat) sc) (19 : Nat) (List.map (Value.int IntKind.u8) xs))), (5, [0, 1, 2, 3, 4, 5, 7, 8, 9, 10, 11, 12, 13, 14, 15, 16, 17, 18, 19, 20, 21, 22, 23, 24, 25, 26, 27, 28, 29, 30, 31, 32, 33, 34, 35, 36, 37, 38, 39, 40, 41, 42], (RdIs (1 : Nat) (Value.slice sa (19 : Nat) sc) (19 : Nat) (List.map (Value.int IntKind.u8) xs))), (6, [0, 1, 2, 3, 4, 5, 6, 7, 8, 9, 10, 11, 12, 13, 14, 15, 16, 17, 18, 19, 20, 21, 22, 23, 24, 25, 26, 27, 28, 29, 30, 31, 32, 33, 34, 35, 36, 37, 38, 39, 40, 41, 42], (RdIs (1 : Nat) (Value.slice sa (19 : Nat) sc) (19 : Nat) (List.map (Value.int IntKind.u8) xs))), (8, [0, 1, 2, 3, 4, 5, 6, 7, 8, 10, 11, 12, 13, 14, 15, 16, 17, 18, 19, 20, 21, 22, 23, 24, 25, 26, 27, 28, 29, 30, 31, 32, 33, 34, 35, 36, 37, 38, 39, 40, 41, 42], (RdIs (1 : Nat) (Value.slice sa (19 : Nat) sc) (19 : Nat) (List.map (Value.int IntKind.u8) xs))), (9, [0, 1, 2, 3, 4, 5, 6, 7, 8, 9, 10, 11, 12, 13, 14, 15, 16, 17, 18, 19, 20, 21, 22, 23, 24, 25, 26, 27, 28, 29, 30, 31, 32, 33, 34, 35, 36, 37, 38, 39, 40, 41, 42], (RdIs (1 : Nat) (Value.slice sa (19 : Nat) sc) (19 : Nat) (List.map (Value.int IntKind.u8) xs))), (11, [0, 1, 2, 3, 4, 5, 6, 7, 8, 9, 10, 11, 13, 14, 15, 16, 17, 18, 19, 20, 21, 22, 23, 24, 25, 26, 27, 28, 29, 30, 31, 32, 33, 34, 35, 36, 37, 38, 39, 40, 41, 42], (RdIs (1 : Nat) (Value.slice sa (19 : Nat) sc) (19 : Nat) (List.map (Value.int IntKind.u8) xs))), (12, [0, 1, 2, 3, 4, 5, 6, 7, 8, 9, 10, 11, 12, 13, 14, 15, 16, 17, 18, 19, 20, 21, 22, 23, 24, 25, 26, 27, 28, 29, 30, 31, 32, 33, 34, 35, 36, 37, 38, 39, 40, 41, 42], (RdIs (1 : Nat) (Value.slice sa (19 : Nat) sc) (19 : Nat) (List.map (Value.int IntKind.u8) xs))), (14, [0, 1, 2, 3, 4, 5, 6, 7, 8, 9, 10, 11, 12, 13, 14, 17, 18, 19, 20, 21, 23, 24, 25, 26, 27, 28, 29, 30, 31, 32, 33, 34, 35, 36, 37, 38, 39, 40, 41, 42], (RdIs (1 : Nat) (Value.slice sa (19 : Nat) sc) (19 : Nat) (List.map (Value.int IntKind.u8) xs))), (15, [0, 1, 2, 3, 4, 5, 6, 7, 8, 9, 10, 11, 12, 13, 14, 15, 17, 18, 19, 20, 21, 23, 24, 25, 26, 27, 28, 29, 30, 31, 32, 33, 34, 35, 36, 37, 38, 39, 40, 41, 42], (RdIs (1 : Nat) (Value.slice sa (19 : Nat) sc) (19 : Nat) (List.map (Value.int IntKind.u8) xs))), (18, [0, 1, 2, 3, 4, 5, 6, 7, 8, 9, 10, 11, 12, 13, 14, 15, 16, 17, 18, 23, 24, 25, 26, 27, 28, 29, 30, 31, 32, 33, 34, 35, 36, 37, 38, 39, 40, 41, 42], (RdIs (1 : Nat) (Value.slice sa (19 : Nat) sc) (19 : Nat) (List.map (Value.int IntKind.u8) xs))), (19, [0, 1, 2, 3, 4, 5, 6, 7, 8, 9, 10, 11, 12, 13, 14, 15, 16, 17, 18, 19, 23, 24, 25, 26, 27, 28, 29, 30, 31, 32, 33, 34, 35, 36, 37, 38, 39, 40, 41, 42], (RdIs (1 : Nat) (Value.slice sa (19 : Nat) sc) (19 : Nat) (List.map (Value.int IntKind.u8) xs))), (24, [0, 1, 2, 3, 4, 5, 6, 7, 8, 9, 10, 11, 12, 13, 14, 15, 16, 17, 18, 19, 20, 21, 22, 23, 24, 26, 27, 28, 29, 30, 31, 32, 33, 34, 35, 36, 37, 38, 39, 40, 41, 42], (RdIs (1 : Nat) (Value.slice sa (19 : Nat) sc) (19 : Nat) (List.map (Value.int IntKind.u8) xs))), (25, [0, 1, 2, 3, 4, 5, 6, 7, 8, 9, 10, 11, 12, 13, 14, 15, 16, 17, 18, 19, 20, 21, 22, 23, 24, 25, 26, 27, 28, 29, 30, 31, 32, 33, 34, 35, 36, 37, 38, 39, 40, 41, 42], (RdIs (1 : Nat) (Value.slice sa (19 : Nat) sc) (19 : Nat) (List.map (Value.int IntKind.u8) xs))), (27, [0, 1, 2, 3, 4, 5, 6, 7, 8, 9, 10, 11, 12, 13, 14, 15, 16, 17, 18, 19, 20, 21, 22, 23, 24, 25, 26, 27, 29, 30, 31, 32, 33, 34, 35, 36, 37, 38, 39, 40, 41, 42], (RdIs (1 : Nat) (Value.slice sa (19 : Nat) sc) (19 : Nat) (List.map (Value.int IntKind.u8) xs))), (28, [0, 1, 2, 3, 4, 5, 6, 7, 8, 9, 10, 11, 12, 13, 14, 15, 16, 17, 18, 19, 20, 21, 22, 23, 24, 25, 26, 27, 28, 29, 30, 31, 32, 33, 34, 35, 36, 37, 38, 39, 40, 41, 42], (RdIs (1 : Nat) (Value.slice sa (19 : Nat) sc) (19 : Nat) (List.map (Value.int IntKind.u8) xs))), (30, [0, 1, 2, 3, 4, 5, 6, 7, 8, 9, 10, 11, 12, 13, 14, 15, 16, 17, 18, 19, 20, 21, 22, 23, 24, 25, 26, 27, 28, 29, 30, 32, 33, 34, 35, 36, 37, 38, 39, 40, 41, 42], (RdIs (1 : Nat) (Value.slice sa (19 : Nat) sc) (19 : Nat) (List.map (Value.int IntKind.u8) xs))), (31, [0, 1, 2, 3, 4, 5, 6, 7, 8, 9, 10, 11, 12, 13, 14, 15, 16, 17, 18, 19, 20, 21, 22, 23, 24, 25, 26, 27, 28, 29, 30, 31, 32, 33, 34, 35, 36, 37, 38, 39, 40, 41, 42], (RdIs (1 : Nat) (Value.slice sa (19 : Nat) sc) (19 : Nat) (List.map (Value.int IntKind.u8) xs))), (33, [0, 1, 2, 3, 4, 5, 6, 7, 8, 9, 10, 11, 12, 13, 14, 15, 16, 17, 18, 19, 20, 21, 22, 23, 24, 25, 26, 27, 28, 29, 30, 31, 32, 33, 35, 36, 37, 38, 39, 40, 41, 42], (RdIs (1 : Nat) (Value.slice sa (19 : Nat) sc) (19 : Nat) (List.map (Value.int IntKind.u8) xs))), (34, [0, 1, 2, 3, 4, 5, 6, 7, 8, 9, 10, 11, 12, 13, 14, 15, 16, 17, 18, 19, 20, 21, 22, 23, 24, 25, 26, 27, 28, 29, 30, 31, 32, 33, 34, 35, 36, 37, 38, 39, 40, 41, 42], (RdIs (1 : Nat) (Value.slice sa (19 : Nat) sc) (19 : Nat) (List.map (Value.int IntKind.u8) xs))), (36, [0, 1, 2, 3, 4, 5, 6, 7, 8, 9, 10, 11, 12, 13, 14, 15, 16, 17, 18, 19, 20, 21, 22, 23, 24, 25, 26, 27, 28, 29, 30, 31, 32, 33, 34, 35, 36, 39, 40, 41, 42], (RdIs (1 : Nat) (Value.slice sa (19 : Nat) sc) (19 : Nat) (List.map (Value.int IntKind.u8) xs))), (37, [0, 1, 2, 3, 4, 5, 6, 7, 8, 9, 10, 11, 12, 13, 14, 15, 16, 17, 18, 19, 20, 21, 22, 23, 24, 25, 26, 27, 28, 29, 30, 31, 32, 33, 34, 35, 36, 37, 39, 40, 41, 42], (RdIs (1 : Nat) (Value.slice sa (19 : Nat) sc) (19 : Nat) (List.map (Value.int IntKind.u8) xs))), (41, [0, 1, 2, 3, 4, 5, 6, 7, 8, 9, 10, 11, 12, 13, 14, 15, 16, 17, 18, 19, 20, 21, 22, 23, 24, 25, 26, 27, 28, 29, 30, 31, 32, 33, 34, 35, 36, 37, 38, 39, 40, 41], (RdIs (1 : Nat) (Value.slice sa (19 : Nat) sc) (19 : Nat) (List.map (Value.int IntKind.u8) xs))), (42, [0, 1, 2, 3, 4, 5, 6, 7, 8, 9, 10, 11, 12, 13, 14, 15, 16, 17, 18, 19, 20, 21, 22, 23, 24, 25, 26, 27, 28, 29, 30, 31, 32, 33, 34, 35, 36, 37, 38, 39, 40, 41, 42], (RdIs (1 : Nat) (Value.slice sa (19 : Nat) sc) (19 : Nat) (List.map (Value.int IntKind.u8) xs)))] (by kernel_rfl) ?_
      refine Xg.any_pure ((Value.pointer (some (Addr.mk p (0 : Nat) none)))) 0 (by kernel_rfl) rfl (by kernel_rfl) (by kernel_rfl) (by kernel_rfl) (by kernel_rfl) rfl (fun _ => by kernel_rfl) ?_
      refine Xg.any_pure ((Value.slice sa (19 : Nat) sc)) 1 (by kernel_rfl) rfl (by kernel_rfl) (by kernel_rfl) (by kernel_rfl) (by kernel_rfl) rfl (fun _ => by kernel_rfl) ?_
      refine Xg.any_reads (.pointer (some (Addr.mk (Xg.blk sa) (offA sa + (0 : Nat)) none))) 2 0 (by kernel_rfl) rfl (by kernel_rfl) (by kernel_rfl) (by kernel_rfl) (by kernel_rfl) rfl rfl (by kernel_rfl) (Xg.rd_now 0 hr (by kernel_rfl)) (Xg.run_ix_rd (elem := 5) (kd := .i64) (e := ((0 : Int))) 1 ((0 : Nat)) (offA sa + (0 : Nat)) (by kernel_rfl) (by kernel_rfl) (by kernel_rfl) (by kernel_rfl) rfl (by omega) (by simp only [List.length_map]; omega) (by omega)) ?_
      refine Xg.any_reads (Value.int IntKind.u8 (xs.getD (0 : Nat) (0 : Int))) 3 1 (by kernel_rfl) rfl (by kernel_rfl) (by kernel_rfl) (by kernel_rfl) (by kernel_rfl) rfl rfl (by kernel_rfl) (Xg.rd_now 0 hr (by kernel_rfl)) (Xg.run_load_rd (off0 := (offA sa)) ((0 : Nat)) (by kernel_rfl) (by omega) (Xg.get_ints (by omega)) (by kernel_rfl)) ?_
      refine Xg.any_pure ((Value.slice sa (19 : Nat) sc)) 4 (by kernel_rfl) rfl (by kernel_rfl) (by kernel_rfl) (by kernel_rfl) (by kernel_rfl) rfl (fun _ => by kernel_rfl) ?_
      refine Xg.any_reads (.pointer (some (Addr.mk (Xg.blk sa) (offA sa + (1 : Nat)) none))) 5 2 (by kernel_rfl) rfl (by kernel_rfl) (by kernel_rfl) (by kernel_rfl) (by kernel_rfl) rfl rfl (by kernel_rfl) (Xg.rd_now 0 hr (by kernel_rfl)) (Xg.run_ix_rd (elem := 5) (kd := .i64) (e := ((1 : Int))) 1 ((1 : Nat)) (offA sa + (1 : Nat)) (by kernel_rfl) (by kernel_rfl) (by kernel_rfl) (by kernel_rfl) rfl (by omega) (by simp only [List.length_map]; omega) (by omega)) ?_
      refine Xg.any_reads (Value.int IntKind.u8 (xs.getD (1 : Nat) (0 : Int))) 6 3 (by kernel_rfl) rfl (by kernel_rfl) (by kernel_rfl) (by kernel_rfl) (by kernel_rfl) rfl rfl (by kernel_rfl) (Xg.rd_now 0 hr (by kernel_rfl)) (Xg.run_load_rd (off0 := (offA sa + (1 : Nat))) ((1 : Nat)) (by kernel_rfl) (by omega) (Xg.get_ints (by omega)) (by kernel_rfl)) ?_
      refine Xg.any_pure ((Value.slice sa (19 : Nat) sc)) 7 (by kernel_rfl) rfl (by kernel_rfl) (by kernel_rfl) (by kernel_rfl) (by kernel_rfl) rfl (fun _ => by kernel_rfl) ?_
      refine Xg.any_reads (.pointer (some (Addr.mk (Xg.blk sa) (offA sa + (2 : Nat)) none))) 8 4 (by kernel_rfl) rfl (by kernel_rfl) (by kernel_rfl) (by kernel_rfl) (by kernel_rfl) rfl rfl (by kernel_rfl) (Xg.rd_now 0 hr (by kernel_rfl)) (Xg.run_ix_rd (elem := 5) (kd := .i64) (e := ((2 : Int))) 1 ((2 : Nat)) (offA sa + (2 : Nat)) (by kernel_rfl) (by kernel_rfl) (by kernel_rfl) (by kernel_rfl) rfl (by omega) (by simp only [List.length_map]; omega) (by omega)) ?_
      refine Xg.any_reads (Value.int IntKind.u8 (xs.getD (2 : Nat) (0 : Int))) 9 5 (by kernel_rfl) rfl (by kernel_rfl) (by kernel_rfl) (by kernel_rfl) (by kernel_rfl) rfl rfl (by kernel_rfl) (Xg.rd_now 0 hr (by kernel_rfl)) (Xg.run_load_rd (off0 := (offA sa + (2 : Nat))) ((2 : Nat)) (by kernel_rfl) (by omega) (Xg.get_ints (by omega)) (by kernel_rfl)) ?_
      refine Xg.any_pure ((Value.slice sa (19 : Nat) sc)) 10 (by kernel_rfl) rfl (by kernel_rfl) (by kernel_rfl) (by kernel_rfl) (by kernel_rfl) rfl (fun _ => by kernel_rfl) ?_
      refine Xg.any_reads (.pointer (some (Addr.mk (Xg.blk sa) (offA sa + (3 : Nat)) none))) 11 6 (by kernel_rfl) rfl (by kernel_rfl) (by kernel_rfl) (by kernel_rfl) (by kernel_rfl) rfl rfl (by kernel_rfl) (Xg.rd_now 0 hr (by kernel_rfl)) (Xg.run_ix_rd (elem := 5) (kd := .i64) (e := ((3 : Int))) 1 ((3 : Nat)) (offA sa + (3 : Nat)) (by kernel_rfl) (by kernel_rfl) (by kernel_rfl) (by kernel_rfl) rfl (by omega) (by simp only [List.length_map]; omega) (by omega)) ?_
      refine Xg.any_reads (Value.int IntKind.u8 (xs.getD (3 : Nat) (0 : Int))) 12 7 (by kernel_rfl) rfl (by kernel_rfl) (by kernel_rfl) (by kernel_rfl) (by kernel_rfl) rfl rfl (by kernel_rfl) (Xg.rd_now 0 hr (by kernel_rfl)) (Xg.run_load_rd (off0 := (offA sa + (3 : Nat))) ((3 : Nat)) (by kernel_rfl) (by omega) (Xg.get_ints (by omega)) (by kernel_rfl)) ?_
      refine Xg.any_pure ((Value.slice sa (19 : Nat) sc)) 13 (by kernel_rfl) rfl (by kernel_rfl) (by kernel_rfl) (by kernel_rfl) (by kernel_rfl) rfl (fun _ => by kernel_rfl) ?_
      refine Xg.any_reads (.pointer (some (Addr.mk (Xg.blk sa) (offA sa + (4 : Nat)) none))) 14 8 (by kernel_rfl) rfl (by kernel_rfl) (by kernel_rfl) (by kernel_rfl) (by kernel_rfl) rfl rfl (by kernel_rfl) (Xg.rd_now 0 hr (by kernel_rfl)) (Xg.run_ix_rd (elem := 5) (kd := .i64) (e := ((4 : Int))) 1 ((4 : Nat)) (offA sa + (4 : Nat)) (by kernel_rfl) (by kernel_rfl) (by kernel_rfl) (by kernel_rfl) rfl (by omega) (by simp only [List.length_map]; omega) (by omega)) ?_
      refine Xg.any_reads (Value.int IntKind.u8 (xs.getD (4 : Nat) (0 : Int))) 15 9 (by kernel_rfl) rfl (by kernel_rfl) (by kernel_rfl) (by kernel_rfl) (by kernel_rfl) rfl rfl (by kernel_rfl) (Xg.rd_now 0 hr (by kernel_rfl)) (Xg.run_load_rd (off0 := (offA sa + (4 : Nat))) ((4 : Nat)) (by kernel_rfl) (by omega) (Xg.get_ints (by omega)) (by kernel_rfl)) ?_
      refine Xg.any_int .u16 (IntKind.wrap .u16 ((xs.getD (4 : Nat) (0 : Int)))) 16 (by kernel_rfl) rfl (by kernel_rfl) (by kernel_rfl) (by kernel_rfl) (by kernel_rfl) rfl (fun _ => by kernel_rfl) (Xg.wrap_u16_mod _) ?_
      refine Xg.any_pure ((Value.slice sa (19 : Nat) sc)) 17 (by kernel_rfl) rfl (by kernel_rfl) (by kernel_rfl) (by kernel_rfl) (by kernel_rfl) rfl (fun _ => by kernel_rfl) ?_
      refine Xg.any_reads (.pointer (some (Addr.mk (Xg.blk sa) (offA sa + (5 : Nat)) none))) 18 10 (by kernel_rfl) rfl (by kernel_rfl) (by kernel_rfl) (by kernel_rfl) (by kernel_rfl) rfl rfl (by kernel_rfl) (Xg.rd_now 0 hr (by kernel_rfl)) (Xg.run_ix_rd (elem := 5) (kd := .i64) (e := ((5 : Int))) 1 ((5 : Nat)) (offA sa + (5 : Nat)) (by kernel_rfl) (by kernel_rfl) (by kernel_rfl) (by kernel_rfl) rfl (by omega) (by simp only [List.length_map]; omega) (by omega)) ?_
      refine Xg.any_reads (Value.int IntKind.u8 (xs.getD (5 : Nat) (0 : Int))) 19 11 (by kernel_rfl) rfl (by kernel_rfl) (by kernel_rfl) (by kernel_rfl) (by kernel_rfl) rfl rfl (by kernel_rfl) (Xg.rd_now 0 hr (by kernel_rfl)) (Xg.run_load_rd (off0 := (offA sa + (5 : Nat))) ((5 : Nat)) (by kernel_rfl) (by omega) (Xg.get_ints (by omega)) (by kernel_rfl)) ?_
      refine Xg.any_int .u16 (IntKind.wrap .u16 ((xs.getD (5 : Nat) (0 : Int)))) 20 (by kernel_rfl) rfl (by kernel_rfl) (by kernel_rfl) (by kernel_rfl) (by kernel_rfl) rfl (fun _ => by kernel_rfl) (Xg.wrap_u16_mod _) ?_
      refine Xg.any_int .u16 (IntKind.wrap .u16 ((xs.getD (5 : Nat) (0 : Int) % (65536 : Int) * (256 : Int)))) 21 (by kernel_rfl) rfl (by kernel_rfl) (by kernel_rfl) (by kernel_rfl) (by kernel_rfl) rfl (fun _ => by kernel_rfl) (Xg.wrap_u16_mod _) ?_
      refine Xg.any_pure (.int .u16 (Xg.bor .u16 ((xs.getD (4 : Nat) (0 : Int) % (65536 : Int))) ((xs.getD (5 : Nat) (0 : Int) % (65536 : Int) * (256 : Int) % (65536 : Int))))) 22 (by kernel_rfl) rfl (by kernel_rfl) (by kernel_rfl) (by kernel_rfl) (by kernel_rfl) rfl (fun _ => by kernel_rfl) ?_
      refine Xg.any_pure ((Value.slice sa (19 : Nat) sc)) 23 (by kernel_rfl) rfl (by kernel_rfl) (by kernel_rfl) (by kernel_rfl) (by kernel_rfl) rfl (fun _ => by kernel_rfl) ?_
      refine Xg.any_reads (.pointer (some (Addr.mk (Xg.blk sa) (offA sa + (6 : Nat)) none))) 24 12 (by kernel_rfl) rfl (by kernel_rfl) (by kernel_rfl) (by kernel_rfl) (by kernel_rfl) rfl rfl (by kernel_rfl) (Xg.rd_now 0 hr (by kernel_rfl)) (Xg.run_ix_rd (elem := 5) (kd := .i64) (e := ((6 : Int))) 1 ((6 : Nat)) (offA sa + (6 : Nat)) (by kernel_rfl) (by kernel_rfl) (by kernel_rfl) (by kernel_rfl) rfl (by omega) (by simp only [List.length_map]; omega) (by omega)) ?_
      refine Xg.any_reads (Value.int IntKind.u8 (xs.getD (6 : Nat) (0 : Int))) 25 13 (by kernel_rfl) rfl (by kernel_rfl) (by kernel_rfl) (by kernel_rfl) (by kernel_rfl) rfl rfl (by kernel_rfl) (Xg.rd_now 0 hr (by kernel_rfl)) (Xg.run_load_rd (off0 := (offA sa + (6 : Nat))) ((6 : Nat)) (by kernel_rfl) (by omega) (Xg.get_ints (by omega)) (by kernel_rfl)) ?_
      refine Xg.any_pure ((Value.slice sa (19 : Nat) sc)) 26 (by kernel_rfl) rfl (by kernel_rfl) (by kernel_rfl) (by kernel_rfl) (by kernel_rfl) rfl (fun _ => by kernel_rfl) ?_
      refine Xg.any_reads (.pointer (some (Addr.mk (Xg.blk sa) (offA sa + (7 : Nat)) none))) 27 14 (by kernel_rfl) rfl (by kernel_rfl) (by kernel_rfl) (by kernel_rfl) (by kernel_rfl) rfl rfl (by kernel_rfl) (Xg.rd_now 0 hr (by kernel_rfl)) (Xg.run_ix_rd (elem := 5) (kd := .i64) (e := ((7 : Int))) 1 ((7 : Nat)) (offA sa + (7 : Nat)) (by kernel_rfl) (by kernel_rfl) (by kernel_rfl) (by kernel_rfl) rfl (by omega) (by simp only [List.length_map]; omega) (by omega)) ?_
      refine Xg.any_reads (Value.int IntKind.u8 (xs.getD (7 : Nat) (0 : Int))) 28 15 (by kernel_rfl) rfl (by kernel_rfl) (by kernel_rfl) (by kernel_rfl) (by kernel_rfl) rfl rfl (by kernel_rfl) (Xg.rd_now 0 hr (by kernel_rfl)) (Xg.run_load_rd (off0 := (offA sa + (7 : Nat))) ((7 : Nat)) (by kernel_rfl) (by omega) (Xg.get_ints (by omega)) (by kernel_rfl)) ?_
      refine Xg.any_pure ((Value.slice sa (19 : Nat) sc)) 29 (by kernel_rfl) rfl (by kernel_rfl) (by kernel_rfl) (by kernel_rfl) (by kernel_rfl) rfl (fun _ => by kernel_rfl) ?_
      refine Xg.any_reads (.pointer (some (Addr.mk (Xg.blk sa) (offA sa + (8 : Nat)) none))) 30 16 (by kernel_rfl) rfl (by kernel_rfl) (by kernel_rfl) (by kernel_rfl) (by kernel_rfl) rfl rfl (by kernel_rfl) (Xg.rd_now 0 hr (by kernel_rfl)) (Xg.run_ix_rd (elem := 5) (kd := .i64) (e := ((8 : Int))) 1 ((8 : Nat)) (offA sa + (8 : Nat)) (by kernel_rfl) (by kernel_rfl) (by kernel_rfl) (by kernel_rfl) rfl (by omega) (by simp only [List.length_map]; omega) (by omega)) ?_
      refine Xg.any_reads (Value.int IntKind.u8 (xs.getD (8 : Nat) (0 : Int))) 31 17 (by kernel_rfl) rfl (by kernel_rfl) (by kernel_rfl) (by kernel_rfl) (by kernel_rfl) rfl rfl (by kernel_rfl) (Xg.rd_now 0 hr (by kernel_rfl)) (Xg.run_load_rd (off0 := (offA sa + (8 : Nat))) ((8 : Nat)) (by kernel_rfl) (by omega) (Xg.get_ints (by omega)) (by kernel_rfl)) ?_
      refine Xg.any_pure ((Value.slice sa (19 : Nat) sc)) 32 (by kernel_rfl) rfl (by kernel_rfl) (by kernel_rfl) (by kernel_rfl) (by kernel_rfl) rfl (fun _ => by kernel_rfl) ?_
      refine Xg.any_reads (.pointer (some (Addr.mk (Xg.blk sa) (offA sa + (9 : Nat)) none))) 33 18 (by kernel_rfl) rfl (by kernel_rfl) (by kernel_rfl) (by kernel_rfl) (by kernel_rfl) rfl rfl (by kernel_rfl) (Xg.rd_now 0 hr (by kernel_rfl)) (Xg.run_ix_rd (elem := 5) (kd := .i64) (e := ((9 : Int))) 1 ((9 : Nat)) (offA sa + (9 : Nat)) (by kernel_rfl) (by kernel_rfl) (by kernel_rfl) (by kernel_rfl) rfl (by omega) (by simp only [List.length_map]; omega) (by omega)) ?_
      refine Xg.any_reads (Value.int IntKind.u8 (xs.getD (9 : Nat) (0 : Int))) 34 19 (by kernel_rfl) rfl (by kernel_rfl) (by kernel_rfl) (by kernel_rfl) (by kernel_rfl) rfl rfl (by kernel_rfl) (Xg.rd_now 0 hr (by kernel_rfl)) (Xg.run_load_rd (off0 := (offA sa + (9 : Nat))) ((9 : Nat)) (by kernel_rfl) (by omega) (Xg.get_ints (by omega)) (by kernel_rfl)) ?_
      refine Xg.any_pure ((Value.slice sa (19 : Nat) sc)) 35 (by kernel_rfl) rfl (by kernel_rfl) (by kernel_rfl) (by kernel_rfl) (by kernel_rfl) rfl (fun _ => by kernel_rfl) ?_
      refine Xg.any_reads (.pointer (some (Addr.mk (Xg.blk sa) (offA sa + (10 : Nat)) none))) 36 20 (by kernel_rfl) rfl (by kernel_rfl) (by kernel_rfl) (by kernel_rfl) (by kernel_rfl) rfl rfl (by kernel_rfl) (Xg.rd_now 0 hr (by kernel_rfl)) (Xg.run_ix_rd (elem := 5) (kd := .i64) (e := ((10 : Int))) 1 ((10 : Nat)) (offA sa + (10 : Nat)) (by kernel_rfl) (by kernel_rfl) (by kernel_rfl) (by kernel_rfl) rfl (by omega) (by simp only [List.length_map]; omega) (by omega)) ?_
      refine Xg.any_reads (Value.int IntKind.u8 (xs.getD (10 : Nat) (0 : Int))) 37 21 (by kernel_rfl) rfl (by kernel_rfl) (by kernel_rfl) (by kernel_rfl) (by kernel_rfl) rfl rfl (by kernel_rfl) (Xg.rd_now 0 hr (by kernel_rfl)) (Xg.run_load_rd (off0 := (offA sa + (10 : Nat))) ((10 : Nat)) (by kernel_rfl) (by omega) (Xg.get_ints (by omega)) (by kernel_rfl)) ?_
      refine Xg.any_int .i64 (IntKind.wrap .i64 ((xs.getD (10 : Nat) (0 : Int)))) 38 (by kernel_rfl) rfl (by kernel_rfl) (by kernel_rfl) (by kernel_rfl) (by kernel_rfl) rfl (fun _ => by kernel_rfl) (Xg.wrap_i64_in (by omega)) ?_
      refine Xg.any_pure ((Value.int IntKind.i64 (bor IntKind.i64 (xs.getD (11 : Nat) (0 : Int)) (xs.getD (12 : Nat) (0 : Int) * (256 : Int))))) 39 (by kernel_rfl) rfl (by kernel_rfl) (by kernel_rfl) (by kernel_rfl) (by kernel_rfl) rfl (fun _ => by kernel_rfl) ?_
      refine Xg.any_pure ((Value.slice sa (19 : Nat) sc)) 40 (by kernel_rfl) rfl (by kernel_rfl) (by kernel_rfl) (by kernel_rfl) (by kernel_rfl) rfl (fun _ => by kernel_rfl) ?_
      refine Xg.any_reads (.pointer (some (Addr.mk (Xg.blk sa) (offA sa + (13 : Nat)) none))) 41 22 (by kernel_rfl) rfl (by kernel_rfl) (by kernel_rfl) (by kernel_rfl) (by kernel_rfl) rfl rfl (by kernel_rfl) (Xg.rd_now 0 hr (by kernel_rfl)) (Xg.run_ix_rd (elem := 5) (kd := .i64) (e := ((13 : Int))) 1 ((13 : Nat)) (offA sa + (13 : Nat)) (by kernel_rfl) (by kernel_rfl) (by kernel_rfl) (by kernel_rfl) rfl (by omega) (by simp only [List.length_map]; omega) (by omega)) ?_
      refine Xg.any_reads (Value.int IntKind.u8 (xs.getD (13 : Nat) (0 : Int))) 42 23 (by kernel_rfl) rfl (by kernel_rfl) (by kernel_rfl) (by kernel_rfl) (by kernel_rfl) rfl rfl (by kernel_rfl) (Xg.rd_now 0 hr (by kernel_rfl)) (Xg.run_load_rd (off0 := (offA sa + (13 : Nat))) ((13 : Nat)) (by kernel_rfl) (by omega) (Xg.get_ints (by omega)) (by kernel_rfl)) ?_
      refine Xg.any_pure ((Value.agg #[Value.int IntKind.u8 (xs.getD (0 : Nat) (0 : Int)), Value.int IntKind.u8 (xs.getD (1 : Nat) (0 : Int)), Value.int IntKind.u8 (xs.getD (2 : Nat) (0 : Int)), Value.int IntKind.u8 (xs.getD (3 : Nat) (0 : Int)), Value.int IntKind.u16 (bor IntKind.u16 (xs.getD (4 : Nat) (0 : Int) % (65536 : Int)) (xs.getD (5 : Nat) (0 : Int) % (65536 : Int) * (256 : Int) % (65536 : Int))), Value.int IntKind.u8 (xs.getD (6 : Nat) (0 : Int)), Value.int IntKind.u8 (xs.getD (7 : Nat) (0 : Int)), Value.int IntKind.u8 (xs.getD (8 : Nat) (0 : Int)), Value.int IntKind.u8 (xs.getD (9 : Nat) (0 : Int)), Value.int IntKind.i64 (xs.getD (10 : Nat) (0 : Int)), Value.int IntKind.i64 (bor IntKind.i64 (xs.getD (11 : Nat) (0 : Int)) (xs.getD (12 : Nat) (0 : Int) * (256 : Int))), Value.int IntKind.u8 (xs.getD (13 : Nat) (0 : Int)), Value.slice none (0 : Nat) (0 : Nat)])) 43 (by kernel_rfl) rfl (by kernel_rfl) (by kernel_rfl) (by kernel_rfl) (by kernel_rfl) rfl (fun _ => by kernel_rfl) ?_
      refine Xg.any_pure ((Value.pointer (some (Addr.mk p (0 : Nat) none)))) 44 (by kernel_rfl) rfl (by kernel_rfl) (by kernel_rfl) (by kernel_rfl) (by kernel_rfl) rfl (fun _ => by kernel_rfl) ?_
      refine Xg.any_each [45] (by kernel_rfl) rfl ⟨?_, trivial⟩
      refine Xg.comes_act rfl (by kernel_rfl) (by kernel_rfl) (Xg.opx_storen 13 (off := 0) 1 [Value.int IntKind.u8 (xs.getD (0 : Nat) (0 : Int)), Value.int IntKind.u8 (xs.getD (1 : Nat) (0 : Int)), Value.int IntKind.u8 (xs.getD (2 : Nat) (0 : Int)), Value.int IntKind.u8 (xs.getD (3 : Nat) (0 : Int)), Value.int IntKind.u16 (bor IntKind.u16 (xs.getD (4 : Nat) (0 : Int) % (65536 : Int)) (xs.getD (5 : Nat) (0 : Int) % (65536 : Int) * (256 : Int) % (65536 : Int))), Value.int IntKind.u8 (xs.getD (6 : Nat) (0 : Int)), Value.int IntKind.u8 (xs.getD (7 : Nat) (0 : Int)), Value.int IntKind.u8 (xs.getD (8 : Nat) (0 : Int)), Value.int IntKind.u8 (xs.getD (9 : Nat) (0 : Int)), Value.int IntKind.i64 (xs.getD (10 : Nat) (0 : Int)), Value.int IntKind.i64 (bor IntKind.i64 (xs.getD (11 : Nat) (0 : Int)) (xs.getD (12 : Nat) (0 : Int) * (256 : Int))), Value.int IntKind.u8 (xs.getD (13 : Nat) (0 : Int)), Value.slice none (0 : Nat) (0 : Nat)] (by kernel_rfl) rfl (by kernel_rfl) (by kernel_rfl) rfl (by kernel_rfl) (Nat.le_of_ble_eq_true (by kernel_rfl)) ?_)
      refine Xg.acts (Xg.owes_skip (by kernel_rfl) (Xg.owes_skip (by kernel_rfl) (Xg.owes_skip (by kernel_rfl) (Xg.owes_skip (by kernel_rfl) (Xg.owes_skip (by kernel_rfl) (Xg.owes_skip (by kernel_rfl) (Xg.owes_skip (by kernel_rfl) (Xg.owes_skip (by kernel_rfl) (Xg.owes_skip (by kernel_rfl) (Xg.owes_skip (by kernel_rfl) (Xg.owes_skip (by kernel_rfl) (Xg.owes_skip (by kernel_rfl) (Xg.owes_skip (by kernel_rfl) (Xg.owes_skip (by kernel_rfl) (Xg.owes_skip (by kernel_rfl) (Xg.owes_skip (by kernel_rfl) (Xg.owes_skip (by kernel_rfl) (Xg.owes_skip (by kernel_rfl) (Xg.owes_skip (by kernel_rfl) (Xg.owes_skip (by kernel_rfl) (Xg.owes_skip (by kernel_rfl) (Xg.owes_skip (by kernel_rfl) (Xg.owes_skip (by kernel_rfl) (Xg.owes_skip (by kernel_rfl) Xg.owes_nil)))))))))))))))))))))))) ?_
      refine Xg.any_nil (by kernel_rfl) ?_
      refine Xg.at_seq ?_
      refine Xg.at_region ?_
      refine Xg.ops_op (by kernel_rfl) (Xg.opx_pure ((Value.int IntKind.i64 (0 : Int))) rfl (fun _ => by kernel_rfl) ?_)
      refine Xg.ops_nil ?_
      refine Xg.at_ret_ps (v := (Value.int IntKind.i64 (0 : Int))) [1, 0] [row p (60 : TypeId) [Value.int IntKind.u8 (xs.getD (0 : Nat) (0 : Int)), Value.int IntKind.u8 (xs.getD (1 : Nat) (0 : Int)), Value.int IntKind.u8 (xs.getD (2 : Nat) (0 : Int)), Value.int IntKind.u8 (xs.getD (3 : Nat) (0 : Int)), Value.int IntKind.u16 (bor IntKind.u16 (xs.getD (4 : Nat) (0 : Int) % (65536 : Int)) (xs.getD (5 : Nat) (0 : Int) % (65536 : Int) * (256 : Int) % (65536 : Int))), Value.int IntKind.u8 (xs.getD (6 : Nat) (0 : Int)), Value.int IntKind.u8 (xs.getD (7 : Nat) (0 : Int)), Value.int IntKind.u8 (xs.getD (8 : Nat) (0 : Int)), Value.int IntKind.u8 (xs.getD (9 : Nat) (0 : Int)), Value.int IntKind.i64 (xs.getD (10 : Nat) (0 : Int)), Value.int IntKind.i64 (bor IntKind.i64 (xs.getD (11 : Nat) (0 : Int)) (xs.getD (12 : Nat) (0 : Int) * (256 : Int))), Value.int IntKind.u8 (xs.getD (13 : Nat) (0 : Int)), Value.slice none (0 : Nat) (0 : Nat)], A] Go.Proofs.Tryd.func24 (fun _ => by kernel_rfl) (by kernel_rfl) (by kernel_rfl) ?_)
    all_goals
      exfalso
      refine h ⟨hn, by assumption, by assumption, by assumption, by assumption, by omega, by unfold goesI; omega, by unfold goesI; omega, by unfold goesI; omega, fun i hi => Classical.byContradiction fun hne => ?_⟩
      have hc := (show xx1 = true ↔ ∃ i, i < 5 ∧ (List.drop 14 xs).getD i 0 ≠ 0 by assumption).2 ⟨i, hi, hne⟩
      simp_all
  · (focus
      refine Xg.spec_of Go.Proofs.Tryd.func24 rfl Go.Proofs.Tryd.ntmps24 fun g F => ?_)
    (focus
      refine Xg.at_seq ?_
      refine Xg.at_region ?_
      refine Xg.ops_op (by kernel_rfl) (Xg.opx_pure ((Value.int IntKind.i64 (0 : Int))) rfl (fun _ => by kernel_rfl) ?_)
      refine Xg.ops_nil ?_
      refine Xg.at_seq ?_
      refine Xg.at_seq ?_
      refine Xg.at_region ?_
      refine Xg.ops_op (by kernel_rfl) (Xg.opx_pure ((Value.slice sa n sc)) rfl (fun _ => by kernel_rfl) ?_)
      refine Xg.ops_op (by kernel_rfl) (Xg.opx_pure ((Value.int IntKind.i64 (↑n : Int))) rfl (fun _ => by kernel_rfl) ?_)
      refine Xg.ops_op (by kernel_rfl) (Xg.opx_pure (.bool (!decide ((((↑n : Int)) : Int) = ((19 : Int))))) rfl (fun _ => by kernel_rfl) ?_)
      refine Xg.ops_op (by kernel_rfl) (Xg.opx_pure ((Value.bool !decide ((↑n : Int) = (19 : Int)))) rfl (fun _ => by kernel_rfl) ?_)
      refine Xg.ops_flag (j := 9) (c := (!decide ((↑n : Int) = (19 : Int)))) (by kernel_rfl) (fun _ => ?_) (fun xh1 => absurd xh1 (by rw [decide_eq_false (p := ((↑n : Int) = (19 : Int))) (by omega)]; decide))
      refine Xg.ops_skip (by kernel_rfl) ?_
      refine Xg.ops_skip (by kernel_rfl) ?_
      refine Xg.ops_skip (by kernel_rfl) ?_
      refine Xg.ops_skip (by kernel_rfl) ?_
      refine Xg.ops_skip (by kernel_rfl) ?_
      refine Xg.ops_op (by kernel_rfl) (Xg.opx_pure ((Value.bool true)) rfl (fun _ => by kernel_rfl) ?_)
      refine Xg.ops_op (by kernel_rfl) (Xg.opx_pure ((Value.bool true)) rfl (fun _ => by kernel_rfl) ?_)
      refine Xg.ops_skip (by kernel_rfl) ?_
      refine Xg.ops_skip (by kernel_rfl) ?_
      refine Xg.ops_skip (by kernel_rfl) ?_
      refine Xg.ops_skip (by kernel_rfl) ?_
      refine Xg.ops_skip (by kernel_rfl) ?_
      refine Xg.ops_op (by kernel_rfl) (Xg.opx_pure ((Value.bool true)) rfl (fun _ => by kernel_rfl) ?_)
      refine Xg.ops_op (by kernel_rfl) (Xg.opx_pure ((Value.bool true)) rfl (fun _ => by kernel_rfl) ?_)
      refine Xg.ops_skip (by kernel_rfl) ?_
      refine Xg.ops_skip (by kernel_rfl) ?_
      refine Xg.ops_skip (by kernel_rfl) ?_
      refine Xg.ops_skip (by kernel_rfl) ?_
      refine Xg.ops_skip (by kernel_rfl) ?_
      refine Xg.ops_op (by kernel_rfl) (Xg.opx_pure ((Value.bool true)) rfl (fun _ => by kernel_rfl) ?_)
      refine Xg.ops_op (by kernel_rfl) (Xg.opx_pure ((Value.bool true)) rfl (fun _ => by kernel_rfl) ?_)
      refine Xg.ops_skip (by kernel_rfl) ?_
      refine Xg.ops_skip (by kernel_rfl) ?_
      refine Xg.ops_skip (by kernel_rfl) ?_
      refine Xg.ops_skip (by kernel_rfl) ?_
      refine Xg.ops_skip (by kernel_rfl) ?_
      refine Xg.ops_op (by kernel_rfl) (Xg.opx_pure ((Value.bool true)) rfl (fun _ => by kernel_rfl) ?_)
      refine Xg.ops_op (by kernel_rfl) (Xg.opx_pure ((Value.bool true)) rfl (fun _ => by kernel_rfl) ?_)
      refine Xg.ops_skip (by kernel_rfl) ?_
      refine Xg.ops_skip (by kernel_rfl) ?_
      refine Xg.ops_skip (by kernel_rfl) ?_
      refine Xg.ops_skip (by kernel_rfl) ?_
      refine Xg.ops_op (by kernel_rfl) (Xg.opx_pure ((Value.bool true)) rfl (fun _ => by kernel_rfl) ?_)
      refine Xg.ops_nil ?_
      refine Xg.at_true (t := true) (by kernel_rfl) rfl ?_
      refine Xg.at_seq ?_
      refine Xg.at_region ?_
      refine Xg.ops_op (by kernel_rfl) (Xg.opx_pure ((Value.int IntKind.i64 (52 : Int))) rfl (fun _ => by kernel_rfl) ?_)
      refine Xg.ops_nil ?_
      refine Xg.at_ret_ps (v := (Value.int IntKind.i64 (52 : Int))) [0, 1] [PoR p σ s, A] Go.Proofs.Tryd.func24 (fun _ => by kernel_rfl) (by kernel_rfl) (by kernel_rfl) ?_
      exact ⟨by kernel_rfl, by kernel_rfl⟩)

end Go.Proofs.YtncdmccdclhokaaDoor
