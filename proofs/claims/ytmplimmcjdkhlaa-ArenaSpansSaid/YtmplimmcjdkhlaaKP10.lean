/- The arena package: a class of two buffers: spans, Store, Load. -/
import Derived.Test.YtmplimmcjdkhlaaKP9
import Derived.Test.YtmplimmcjdkhlaaKS
namespace Go.Proofs.Ytmplimmcjdkhlaa
open Go.Sl Go.Xg
set_option linter.unusedVariables false
set_option linter.unusedSimpArgs false
set_option linter.unnecessarySimpa false
set_option maxHeartbeats 4000000
set_option maxRecDepth 100000

theorem contains_d (ta : Option Addr) (tc b : Nat) (hb : b < 2) : Does Try.prog 66 [.slice ta 2 tc, .int .i64 (b : Nat)] [I2 ta tc [0, 1]] (Ret (.bool true) [I2 ta tc [0, 1]]) := by
  have hl : ([0, 1] : List Int).length = 2 := rfl
  have h : Does Try.prog 45 [.slice ta 2 tc, .int .i64 (b : Nat)] [I2 ta tc [0, 1]] (Ret (.int .i64 (b : Nat)) [I2 ta tc [0, 1]]) := by
    have : b = 0 ∨ b = 1 := by omega
    rcases this with rfl | rfl
    · (focus
        refine Xg.spec_of Go.Proofs.Try.func45 rfl Go.Proofs.Try.ntmps45 fun g F => ?_)
      (focus
        refine Xg.at_seq ?_
        refine Xg.at_region ?_
        refine Xg.ops_op (by kernel_rfl) (Xg.opx_pure ((iv 0)) rfl (fun _ => by kernel_rfl) ?_)
        refine Xg.ops_nil ?_
        refine Xg.at_seq ?_
        refine Xg.at_seq ?_
        refine Xg.at_region ?_
        refine Xg.ops_op (by kernel_rfl) (Xg.opx_pure ((Value.slice ta (2 : Nat) tc)) rfl (fun _ => by kernel_rfl) ?_)
        refine Xg.ops_op (by kernel_rfl) (Xg.opx_pure ((iv 2)) rfl (fun _ => by kernel_rfl) ?_)
        refine Xg.ops_op (by kernel_rfl) (Xg.opx_pure ((iv 0)) rfl (fun _ => by kernel_rfl) ?_)
        refine Xg.ops_nil ?_
        refine Xg.at_block ?_
        refine Xg.at_loop ?_
        refine Xg.at_seq ?_
        refine Xg.at_region ?_
        refine Xg.ops_op (by kernel_rfl) (Xg.opx_pure ((Value.bool true)) rfl (fun _ => by kernel_rfl) ?_)
        refine Xg.ops_nil ?_
        refine Xg.at_seq ?_
        refine Xg.at_true (t := true) (by kernel_rfl) rfl ?_
        refine Xg.at_skip ?_
        refine Xg.at_seq ?_
        refine Xg.at_block ?_
        refine Xg.at_seq ?_
        refine Xg.at_region ?_
        refine Xg.ops_op (by kernel_rfl) (Xg.opx_pure ((iv 0)) rfl (fun _ => by kernel_rfl) ?_)
        refine Xg.ops_op (by kernel_rfl) (Xg.opx_pure ((iv 0)) rfl (fun _ => by kernel_rfl) ?_)
        refine Xg.ops_nil ?_
        refine Xg.at_seq ?_
        refine Xg.at_region ?_
        refine Xg.ops_op (by kernel_rfl) (Xg.opx_pure ((iv 0)) rfl (fun _ => by kernel_rfl) ?_)
        refine Xg.ops_op (by kernel_rfl) (Xg.opx_pure ((Value.slice ta (2 : Nat) tc)) rfl (fun _ => by kernel_rfl) ?_)
        refine Xg.ops_op (by kernel_rfl) (Xg.opx_pure ((iv 0)) rfl (fun _ => by kernel_rfl) ?_)
        refine Xg.ops_op (by kernel_rfl) (Xg.opx_ix_own (elem := 3) (kd := .i64) (e := ((0 : Int))) 0 1 ((0 : Nat)) ((0 : Nat)) rfl (by kernel_rfl) (by kernel_rfl) (by kernel_rfl) (by kernel_rfl) rfl (by omega) (by omega) ?_)
        refine Xg.ops_op (by kernel_rfl) (Xg.opx_load_own (a := ta) (off := ((0 : Nat))) 0 (iv ([(0 : Int), (1 : Int)].getD (0 : Nat) (0 : Int))) rfl (by kernel_rfl) (Xg.get_ints (by omega)) (by kernel_rfl) ?_)
        refine Xg.ops_op (by kernel_rfl) (Xg.opx_pure ((Value.bool true)) rfl (fun _ => by kernel_rfl) ?_)
        refine Xg.ops_nil ?_
        refine Xg.at_true (t := true) (by kernel_rfl) rfl ?_
        refine Xg.at_seq ?_
        refine Xg.at_region ?_
        refine Xg.ops_op (by kernel_rfl) (Xg.opx_pure ((iv 0)) rfl (fun _ => by kernel_rfl) ?_)
        refine Xg.ops_op (by kernel_rfl) (Xg.opx_pure ((iv 0)) rfl (fun _ => by kernel_rfl) ?_)
        refine Xg.ops_nil ?_
        refine Xg.at_ret_ps (v := (iv 0)) [0] [I2 ta tc [(0 : Int), (1 : Int)]] Go.Proofs.Try.func45 (fun _ => by kernel_rfl) (by kernel_rfl) (by kernel_rfl) ?_
        exact ⟨by kernel_rfl, by kernel_rfl⟩)
    · (focus
        refine Xg.spec_of Go.Proofs.Try.func45 rfl Go.Proofs.Try.ntmps45 fun g F => ?_)
      (focus
        refine Xg.at_seq ?_
        refine Xg.at_region ?_
        refine Xg.ops_op (by kernel_rfl) (Xg.opx_pure ((iv 0)) rfl (fun _ => by kernel_rfl) ?_)
        refine Xg.ops_nil ?_
        refine Xg.at_seq ?_
        refine Xg.at_seq ?_
        refine Xg.at_region ?_
        refine Xg.ops_op (by kernel_rfl) (Xg.opx_pure ((Value.slice ta (2 : Nat) tc)) rfl (fun _ => by kernel_rfl) ?_)
        refine Xg.ops_op (by kernel_rfl) (Xg.opx_pure ((iv 2)) rfl (fun _ => by kernel_rfl) ?_)
        refine Xg.ops_op (by kernel_rfl) (Xg.opx_pure ((iv 0)) rfl (fun _ => by kernel_rfl) ?_)
        refine Xg.ops_nil ?_
        refine Xg.at_block ?_
        refine Xg.at_loop ?_
        refine Xg.at_seq ?_
        refine Xg.at_region ?_
        refine Xg.ops_op (by kernel_rfl) (Xg.opx_pure ((Value.bool true)) rfl (fun _ => by kernel_rfl) ?_)
        refine Xg.ops_nil ?_
        refine Xg.at_seq ?_
        refine Xg.at_true (t := true) (by kernel_rfl) rfl ?_
        refine Xg.at_skip ?_
        refine Xg.at_seq ?_
        refine Xg.at_block ?_
        refine Xg.at_seq ?_
        refine Xg.at_region ?_
        refine Xg.ops_op (by kernel_rfl) (Xg.opx_pure ((iv 0)) rfl (fun _ => by kernel_rfl) ?_)
        refine Xg.ops_op (by kernel_rfl) (Xg.opx_pure ((iv 0)) rfl (fun _ => by kernel_rfl) ?_)
        refine Xg.ops_nil ?_
        refine Xg.at_seq ?_
        refine Xg.at_region ?_
        refine Xg.ops_op (by kernel_rfl) (Xg.opx_pure ((iv 1)) rfl (fun _ => by kernel_rfl) ?_)
        refine Xg.ops_op (by kernel_rfl) (Xg.opx_pure ((Value.slice ta (2 : Nat) tc)) rfl (fun _ => by kernel_rfl) ?_)
        refine Xg.ops_op (by kernel_rfl) (Xg.opx_pure ((iv 0)) rfl (fun _ => by kernel_rfl) ?_)
        refine Xg.ops_op (by kernel_rfl) (Xg.opx_ix_own (elem := 3) (kd := .i64) (e := ((0 : Int))) 0 1 ((0 : Nat)) ((0 : Nat)) rfl (by kernel_rfl) (by kernel_rfl) (by kernel_rfl) (by kernel_rfl) rfl (by omega) (by omega) ?_)
        refine Xg.ops_op (by kernel_rfl) (Xg.opx_load_own (a := ta) (off := ((0 : Nat))) 0 (iv ([(0 : Int), (1 : Int)].getD (0 : Nat) (0 : Int))) rfl (by kernel_rfl) (Xg.get_ints (by omega)) (by kernel_rfl) ?_)
        refine Xg.ops_op (by kernel_rfl) (Xg.opx_pure ((Value.bool false)) rfl (fun _ => by kernel_rfl) ?_)
        refine Xg.ops_nil ?_
        refine Xg.at_false (t := false) (by kernel_rfl) rfl ?_
        refine Xg.at_skip ?_
        refine Xg.at_inBlock ?_
        refine Xg.at_region ?_
        refine Xg.ops_op (by kernel_rfl) (Xg.opx_pure ((iv 1)) rfl (fun _ => by kernel_rfl) ?_)
        refine Xg.ops_op (by kernel_rfl) (Xg.opx_pure ((iv 1)) rfl (fun _ => by kernel_rfl) ?_)
        refine Xg.ops_nil ?_
        refine Xg.at_inLoop ?_
        refine Xg.at_seq ?_
        refine Xg.at_region ?_
        refine Xg.ops_op (by kernel_rfl) (Xg.opx_pure ((Value.bool true)) rfl (fun _ => by kernel_rfl) ?_)
        refine Xg.ops_nil ?_
        refine Xg.at_seq ?_
        refine Xg.at_true (t := true) (by kernel_rfl) rfl ?_
        refine Xg.at_skip ?_
        refine Xg.at_seq ?_
        refine Xg.at_block ?_
        refine Xg.at_seq ?_
        refine Xg.at_region ?_
        refine Xg.ops_op (by kernel_rfl) (Xg.opx_pure ((iv 1)) rfl (fun _ => by kernel_rfl) ?_)
        refine Xg.ops_op (by kernel_rfl) (Xg.opx_pure ((iv 1)) rfl (fun _ => by kernel_rfl) ?_)
        refine Xg.ops_nil ?_
        refine Xg.at_seq ?_
        refine Xg.at_region ?_
        refine Xg.ops_op (by kernel_rfl) (Xg.opx_pure ((iv 1)) rfl (fun _ => by kernel_rfl) ?_)
        refine Xg.ops_op (by kernel_rfl) (Xg.opx_pure ((Value.slice ta (2 : Nat) tc)) rfl (fun _ => by kernel_rfl) ?_)
        refine Xg.ops_op (by kernel_rfl) (Xg.opx_pure ((iv 1)) rfl (fun _ => by kernel_rfl) ?_)
        refine Xg.ops_op (by kernel_rfl) (Xg.opx_ix_own (elem := 3) (kd := .i64) (e := ((1 : Int))) 0 1 ((1 : Nat)) ((1 : Nat)) rfl (by kernel_rfl) (by kernel_rfl) (by kernel_rfl) (by kernel_rfl) rfl (by omega) (by omega) ?_)
        refine Xg.ops_op (by kernel_rfl) (Xg.opx_load_own (a := ta) (off := ((1 : Nat))) 0 (iv ([(0 : Int), (1 : Int)].getD (1 : Nat) (0 : Int))) rfl (by kernel_rfl) (Xg.get_ints (by omega)) (by kernel_rfl) ?_)
        refine Xg.ops_op (by kernel_rfl) (Xg.opx_pure ((Value.bool true)) rfl (fun _ => by kernel_rfl) ?_)
        refine Xg.ops_nil ?_
        refine Xg.at_true (t := true) (by kernel_rfl) rfl ?_
        refine Xg.at_seq ?_
        refine Xg.at_region ?_
        refine Xg.ops_op (by kernel_rfl) (Xg.opx_pure ((iv 1)) rfl (fun _ => by kernel_rfl) ?_)
        refine Xg.ops_op (by kernel_rfl) (Xg.opx_pure ((iv 1)) rfl (fun _ => by kernel_rfl) ?_)
        refine Xg.ops_nil ?_
        refine Xg.at_ret_ps (v := (iv 1)) [0] [I2 ta tc [(0 : Int), (1 : Int)]] Go.Proofs.Try.func45 (fun _ => by kernel_rfl) (by kernel_rfl) (by kernel_rfl) ?_
        exact ⟨by kernel_rfl, by kernel_rfl⟩)
  (focus
    refine Xg.spec_of Go.Proofs.Try.func66 rfl Go.Proofs.Try.ntmps66 fun g F => ?_)
  (focus
    refine Xg.at_seq ?_
    refine Xg.at_region ?_
    refine Xg.ops_op (by kernel_rfl) (Xg.opx_pure ((Value.bool false)) rfl (fun _ => by kernel_rfl) ?_)
    refine Xg.ops_nil ?_
    refine Xg.at_seq ?_
    refine Xg.at_region ?_
    refine Xg.ops_op (by kernel_rfl) (Xg.opx_pure ((Value.slice ta (2 : Nat) tc)) rfl (fun _ => by kernel_rfl) ?_)
    refine Xg.ops_op (by kernel_rfl) (Xg.opx_pure ((iv (↑b : Int))) rfl (fun _ => by kernel_rfl) ?_)
    refine Xg.ops_op (by kernel_rfl) (Xg.opx_call1' [0] [I2 ta tc [(0 : Int), (1 : Int)]] (fun _ => by kernel_rfl) (@h ) (by kernel_rfl) (by kernel_rfl) (by kernel_rfl) ?_)
    refine Xg.ops_op (by kernel_rfl) (Xg.opx_pure (.bool (decide ((((↑b : Int)) : Int) ≥ ((0 : Int))))) rfl (fun _ => by kernel_rfl) ?_)
    refine Xg.ops_op (by kernel_rfl) (Xg.opx_pure ((Value.bool (decide ((↑b : Int) ≥ (0 : Int))))) rfl (fun _ => by kernel_rfl) ?_)
    refine Xg.ops_nil ?_
    refine Xg.at_ret_ps (v := (Value.bool (decide ((↑b : Int) ≥ (0 : Int))))) [0] [I2 ta tc [(0 : Int), (1 : Int)]] Go.Proofs.Try.func66 (fun _ => by kernel_rfl) (by kernel_rfl) (by kernel_rfl) ?_
    exact ⟨by kernel_rfl, by kernel_rfl⟩)

section
variable (p ab r : Nat) (ca : Option Addr) (cc : Nat) (ba : Option Addr) (bc n : Nat) (hn : 1 ≤ n) (hn3 : n ≤ 300) (q u : Int) (xa ya ta : Option Addr) (tc : Nat)
include hn hn3
theorem span_ok (b : Nat) (hb : b < 2) (at0 k : Nat) (hk : at0 + k ≤ n) : Does Try.prog 43 [.pointer (some ⟨p, 0, none⟩), .int .i64 0, .int .i64 (b : Nat), .int .i64 (at0 : Nat), .int .i64 (k : Nat)] [H2 p ab ca cc ba bc, B2 ba bc (0, xa, n, n) (0, ya, n, n), A2 ab r, R2 r q u ta 2 tc, I2 ta tc [0, 1]]
    (Ret (.tuple #[.slice (Xg.subA (if b = 0 then xa else ya) (at0 + k) at0 1) k k, .int .i64 0]) [H2 p ab ca cc ba bc, B2 ba bc (0, xa, n, n) (0, ya, n, n), A2 ab r, R2 r q u ta 2 tc, I2 ta tc [0, 1]]) := by
  have ho := of1_d p ab r ca cc ba bc
  have hc := contains_d ta tc b hb
  have hl3 : ([((0 : Int), xa, n, n), (0, ya, n, n)] : List (Int × Option Addr × Nat × Nat)).length = 2 := rfl
  have : b = 0 ∨ b = 1 := by omega
  rcases this with rfl | rfl
  · rw [if_pos rfl]
    (focus
      refine Xg.spec_of Go.Proofs.Try.func43 rfl Go.Proofs.Try.ntmps43 fun g F => ?_)
    (focus
      refine Xg.at_seq ?_
      refine Xg.at_region ?_
      refine Xg.ops_op (by kernel_rfl) (Xg.opx_pure ((Value.slice none (0 : Nat) (0 : Nat))) rfl (fun _ => by kernel_rfl) ?_)
      refine Xg.ops_op (by kernel_rfl) (Xg.opx_pure ((iv 0)) rfl (fun _ => by kernel_rfl) ?_)
      refine Xg.ops_nil ?_
      refine Xg.at_seq ?_
      refine Xg.at_region ?_
      refine Xg.ops_op (by kernel_rfl) (Xg.opx_pure ((pv p 0)) rfl (fun _ => by kernel_rfl) ?_)
      refine Xg.ops_op (by kernel_rfl) (Xg.opx_pure ((iv 0)) rfl (fun _ => by kernel_rfl) ?_)
      refine Xg.ops_op (by kernel_rfl) (Xg.opx_call1' [0, 2] [H2 p ab ca cc ba bc, A2 ab r, B2 ba bc ((0 : Int), xa, n, n) ((0 : Int), ya, n, n), R2 r q u ta (2 : Nat) tc, I2 ta tc [(0 : Int), (1 : Int)]] (fun _ => by kernel_rfl) (@ho ) (by kernel_rfl) (by kernel_rfl) (by kernel_rfl) ?_)
      refine Xg.ops_op (by kernel_rfl) (Xg.opx_pure ((pv r 0)) rfl (fun _ => by kernel_rfl) ?_)
      refine Xg.ops_nil ?_
      refine Xg.at_seq ?_
      refine Xg.at_block ?_
      refine Xg.at_seq ?_
      refine Xg.at_region ?_
      refine Xg.ops_op (by kernel_rfl) (Xg.opx_pure ((pv r 0)) rfl (fun _ => by kernel_rfl) ?_)
      refine Xg.ops_op (by kernel_rfl) (Xg.opx_pure ((Value.bool false)) rfl (fun _ => by kernel_rfl) ?_)
      refine Xg.ops_op (by kernel_rfl) (Xg.opx_pure ((Value.bool false)) rfl (fun _ => by kernel_rfl) ?_)
      refine Xg.ops_nil ?_
      refine Xg.at_false (t := false) (by kernel_rfl) rfl ?_
      refine Xg.at_seq ?_
      refine Xg.at_region ?_
      refine Xg.ops_op (by kernel_rfl) (Xg.opx_pure ((pv r 0)) rfl (fun _ => by kernel_rfl) ?_)
      refine Xg.ops_op (by kernel_rfl) (Xg.opx_pure ((pv r 0)) rfl (fun _ => by kernel_rfl) ?_)
      refine Xg.ops_op (by kernel_rfl) (Xg.opx_pure ((pv r 2)) rfl (fun _ => by kernel_rfl) ?_)
      refine Xg.ops_op (by kernel_rfl) (Xg.opx_load (b := r) (off := ((2 : Nat))) 3 (Value.slice ta (2 : Nat) tc) rfl (by kernel_rfl) (by kernel_rfl) (by kernel_rfl) ?_)
      refine Xg.ops_op (by kernel_rfl) (Xg.opx_pure ((iv 0)) rfl (fun _ => by kernel_rfl) ?_)
      refine Xg.ops_op (by kernel_rfl) (Xg.opx_call1' [4] [I2 ta tc [(0 : Int), (1 : Int)], H2 p ab ca cc ba bc, A2 ab r, B2 ba bc ((0 : Int), xa, n, n) ((0 : Int), ya, n, n), R2 r q u ta (2 : Nat) tc] (fun _ => by kernel_rfl) (@hc ) (by kernel_rfl) (by kernel_rfl) (by kernel_rfl) ?_)
      refine Xg.ops_op (by kernel_rfl) (Xg.opx_pure (.bool false) rfl (fun _ => by kernel_rfl) ?_)
      refine Xg.ops_op (by kernel_rfl) (Xg.opx_pure ((Value.bool false)) rfl (fun _ => by kernel_rfl) ?_)
      refine Xg.ops_nil ?_
      refine Xg.at_false (t := false) (by kernel_rfl) rfl ?_
      refine Xg.at_skip ?_
      refine Xg.at_inBlock ?_
      refine Xg.at_seq ?_
      refine Xg.at_region ?_
      refine Xg.ops_op (by kernel_rfl) (Xg.opx_pure ((pv p 0)) rfl (fun _ => by kernel_rfl) ?_)
      refine Xg.ops_op (by kernel_rfl) (Xg.opx_pure ((pv p 0)) rfl (fun _ => by kernel_rfl) ?_)
      refine Xg.ops_op (by kernel_rfl) (Xg.opx_pure ((pv p 1)) rfl (fun _ => by kernel_rfl) ?_)
      refine Xg.ops_op (by kernel_rfl) (Xg.opx_load (b := p) (off := ((1 : Nat))) 1 (Value.slice ba (2 : Nat) bc) rfl (by kernel_rfl) (by kernel_rfl) (by kernel_rfl) ?_)
      refine Xg.ops_op (by kernel_rfl) (Xg.opx_pure ((iv 0)) rfl (fun _ => by kernel_rfl) ?_)
      refine Xg.ops_op (by kernel_rfl) (Xg.opx_ix_own (elem := 101) (kd := .i64) (e := ((0 : Int))) 3 2 ((0 : Nat)) ((0 : Nat)) rfl (by kernel_rfl) (by kernel_rfl) (by kernel_rfl) (by kernel_rfl) rfl (by omega) (by omega) ?_)
      refine Xg.ops_op (by kernel_rfl) (Xg.opx_pure ((pv (blk ba) 1)) rfl (fun _ => by kernel_rfl) ?_)
      refine Xg.ops_op (by kernel_rfl) (Xg.opx_load_own (a := ba) (off := ((1 : Nat))) 3 (Value.slice xa n n) rfl (by kernel_rfl) (Xg.get_recs' (wd := 2) (fun _ => rfl) default ((0 : Nat)) 1 (by omega) (by decide) (by omega) (by kernel_rfl)) (by kernel_rfl) ?_)
      refine Xg.ops_op (by kernel_rfl) (Xg.opx_pure ((Value.slice xa n n)) rfl (fun _ => by kernel_rfl) ?_)
      refine Xg.ops_nil ?_
      refine Xg.at_seq ?_
      refine Xg.at_seq ?_
      refine Xg.at_region ?_
      refine Xg.ops_op (by kernel_rfl) (Xg.opx_pure ((iv (↑at0 : Int))) rfl (fun _ => by kernel_rfl) ?_)
      refine Xg.ops_op (by kernel_rfl) (Xg.opx_pure (.bool (decide ((((↑at0 : Int)) : Int) < ((0 : Int))))) rfl (fun _ => by kernel_rfl) ?_)
      refine Xg.ops_op (by kernel_rfl) (Xg.opx_pure ((Value.bool (decide ((↑at0 : Int) < (0 : Int))))) rfl (fun _ => by kernel_rfl) ?_)
      refine Xg.ops_op (by kernel_rfl) (Xg.opx_pure ((iv (↑k : Int))) rfl (fun _ => by kernel_rfl) ?_)
      refine Xg.ops_op (by kernel_rfl) (Xg.opx_pure (.bool (decide ((((↑k : Int)) : Int) < ((0 : Int))))) rfl (fun _ => by kernel_rfl) ?_)
      refine Xg.ops_flag (j := 38) (c := (decide ((↑at0 : Int) < (0 : Int)))) (by kernel_rfl) (fun xh1 => absurd (of_decide_eq_true xh1) (by omega)) (fun _ => ?_)
      refine Xg.ops_flag (j := 40) (c := (decide ((↑k : Int) < (0 : Int)))) (by kernel_rfl) (fun xh1 => absurd (of_decide_eq_true xh1) (by omega)) (fun _ => ?_)
      refine Xg.ops_op (by kernel_rfl) (Xg.opx_pure ((Value.bool false)) rfl (fun _ => by kernel_rfl) ?_)
      refine Xg.ops_op (by kernel_rfl) (Xg.opx_pure ((Value.bool false)) rfl (fun _ => by kernel_rfl) ?_)
      refine Xg.ops_op (by kernel_rfl) (Xg.opx_pure ((iv (↑at0 : Int))) rfl (fun _ => by kernel_rfl) ?_)
      refine Xg.ops_op (by kernel_rfl) (Xg.opx_pure ((Value.slice xa n n)) rfl (fun _ => by kernel_rfl) ?_)
      refine Xg.ops_op (by kernel_rfl) (Xg.opx_pure ((iv (↑n : Int))) rfl (fun _ => by kernel_rfl) ?_)
      refine Xg.ops_op (by kernel_rfl) (Xg.opx_pure (.bool (decide ((((↑at0 : Int)) : Int) > ((↑n : Int))))) rfl (fun _ => by kernel_rfl) ?_)
      refine Xg.ops_flag (j := 46) (c := (decide ((↑at0 : Int) > (↑n : Int)))) (by kernel_rfl) (fun xh1 => absurd (of_decide_eq_true xh1) (by omega)) (fun _ => ?_)
      refine Xg.ops_op (by kernel_rfl) (Xg.opx_pure ((Value.bool false)) rfl (fun _ => by kernel_rfl) ?_)
      refine Xg.ops_op (by kernel_rfl) (Xg.opx_pure ((Value.bool false)) rfl (fun _ => by kernel_rfl) ?_)
      refine Xg.ops_op (by kernel_rfl) (Xg.opx_pure ((iv (↑k : Int))) rfl (fun _ => by kernel_rfl) ?_)
      refine Xg.ops_op (by kernel_rfl) (Xg.opx_pure ((Value.slice xa n n)) rfl (fun _ => by kernel_rfl) ?_)
      refine Xg.ops_op (by kernel_rfl) (Xg.opx_pure ((iv (↑n : Int))) rfl (fun _ => by kernel_rfl) ?_)
      refine Xg.ops_op (by kernel_rfl) (Xg.opx_pure ((iv (↑at0 : Int))) rfl (fun _ => by kernel_rfl) ?_)
      refine Xg.ops_op (by kernel_rfl) (Xg.opx_int .i64 (IntKind.wrap .i64 (((↑n : Int) - (↑at0 : Int)))) rfl (fun _ => by kernel_rfl) (Xg.wrap_i64_in (by omega)) ?_)
      refine Xg.ops_op (by kernel_rfl) (Xg.opx_pure (.bool (decide ((((↑k : Int)) : Int) > ((↑n : Int) - (↑at0 : Int))))) rfl (fun _ => by kernel_rfl) ?_)
      refine Xg.ops_flag (j := 54) (c := (decide ((↑k : Int) > (↑n : Int) - (↑at0 : Int)))) (by kernel_rfl) (fun xh1 => absurd (of_decide_eq_true xh1) (by omega)) (fun _ => ?_)
      refine Xg.ops_op (by kernel_rfl) (Xg.opx_pure ((Value.bool false)) rfl (fun _ => by kernel_rfl) ?_)
      refine Xg.ops_nil ?_
      refine Xg.at_false (t := false) (by kernel_rfl) rfl ?_
      refine Xg.at_skip ?_
      refine Xg.at_seq ?_
      refine Xg.at_region ?_
      refine Xg.ops_op (by kernel_rfl) (Xg.opx_pure ((Value.slice xa n n)) rfl (fun _ => by kernel_rfl) ?_)
      refine Xg.ops_op (by kernel_rfl) (Xg.opx_pure ((iv (↑at0 : Int))) rfl (fun _ => by kernel_rfl) ?_)
      refine Xg.ops_op (by kernel_rfl) (Xg.opx_pure ((iv (↑at0 : Int))) rfl (fun _ => by kernel_rfl) ?_)
      refine Xg.ops_op (by kernel_rfl) (Xg.opx_pure ((iv (↑k : Int))) rfl (fun _ => by kernel_rfl) ?_)
      refine Xg.ops_op (by kernel_rfl) (Xg.opx_int .i64 (IntKind.wrap .i64 (((↑at0 : Int) + (↑k : Int)))) rfl (fun _ => by kernel_rfl) (Xg.wrap_i64_in (by omega)) ?_)
      refine Xg.ops_op (by kernel_rfl) (Xg.opx_pure ((iv (↑at0 : Int))) rfl (fun _ => by kernel_rfl) ?_)
      refine Xg.ops_op (by kernel_rfl) (Xg.opx_pure ((iv (↑k : Int))) rfl (fun _ => by kernel_rfl) ?_)
      refine Xg.ops_op (by kernel_rfl) (Xg.opx_int .i64 (IntKind.wrap .i64 (((↑at0 : Int) + (↑k : Int)))) rfl (fun _ => by kernel_rfl) (Xg.wrap_i64_in (by omega)) ?_)
      refine Xg.ops_op (by kernel_rfl) (Xg.opx_run (.slice (Xg.subA xa (((↑at0 : Int) + (↑k : Int)).toNat) at0 1) ((((↑at0 : Int) + (↑k : Int)).toNat) - at0) ((((↑at0 : Int) + (↑k : Int)).toNat) - at0)) rfl (Xg.run_sl3 (elem := 5) (a := xa) (c := n) (len := n) (k1 := .i64) (k2 := .i64) (k3 := .i64) (e1 := ((↑at0 : Int))) (e2 := ((↑at0 : Int) + (↑k : Int))) (e3 := ((↑at0 : Int) + (↑k : Int))) 1 at0 (((↑at0 : Int) + (↑k : Int)).toNat) (((↑at0 : Int) + (↑k : Int)).toNat) (by kernel_rfl) (by kernel_rfl) (by kernel_rfl) (by kernel_rfl) (by kernel_rfl) (by kernel_rfl) rfl (by omega) (by omega) (by omega) (by omega) (by omega)) ?_)
      refine Xg.ops_op (by kernel_rfl) (Xg.opx_pure ((Value.slice (subA xa ((↑at0 : Int) + (↑k : Int)).toNat at0 (1 : Nat)) (((↑at0 : Int) + (↑k : Int)).toNat - at0) (((↑at0 : Int) + (↑k : Int)).toNat - at0))) rfl (fun _ => by kernel_rfl) ?_)
      refine Xg.ops_op (by kernel_rfl) (Xg.opx_pure ((iv 0)) rfl (fun _ => by kernel_rfl) ?_)
      refine Xg.ops_nil ?_
      refine Xg.at_ret_ps (v := (Value.tuple #[Value.slice (subA xa ((↑at0 : Int) + (↑k : Int)).toNat at0 (1 : Nat)) (((↑at0 : Int) + (↑k : Int)).toNat - at0) (((↑at0 : Int) + (↑k : Int)).toNat - at0), iv 0])) [1, 3, 2, 4, 0] [H2 p ab ca cc ba bc, B2 ba bc ((0 : Int), xa, n, n) ((0 : Int), ya, n, n), A2 ab r, R2 r q u ta (2 : Nat) tc, I2 ta tc [(0 : Int), (1 : Int)]] Go.Proofs.Try.func43 (fun _ => by kernel_rfl) (by kernel_rfl) (by kernel_rfl) ?_)
    exact ⟨by rw [show ((at0 : Int) + (k : Int)).toNat = at0 + k from by omega, show at0 + k - at0 = k from by omega], rfl⟩
  · rw [if_neg (by decide)]
    (focus
      refine Xg.spec_of Go.Proofs.Try.func43 rfl Go.Proofs.Try.ntmps43 fun g F => ?_)
    (focus
      refine Xg.at_seq ?_
      refine Xg.at_region ?_
      refine Xg.ops_op (by kernel_rfl) (Xg.opx_pure ((Value.slice none (0 : Nat) (0 : Nat))) rfl (fun _ => by kernel_rfl) ?_)
      refine Xg.ops_op (by kernel_rfl) (Xg.opx_pure ((iv 0)) rfl (fun _ => by kernel_rfl) ?_)
      refine Xg.ops_nil ?_
      refine Xg.at_seq ?_
      refine Xg.at_region ?_
      refine Xg.ops_op (by kernel_rfl) (Xg.opx_pure ((pv p 0)) rfl (fun _ => by kernel_rfl) ?_)
      refine Xg.ops_op (by kernel_rfl) (Xg.opx_pure ((iv 0)) rfl (fun _ => by kernel_rfl) ?_)
      refine Xg.ops_op (by kernel_rfl) (Xg.opx_call1' [0, 2] [H2 p ab ca cc ba bc, A2 ab r, B2 ba bc ((0 : Int), xa, n, n) ((0 : Int), ya, n, n), R2 r q u ta (2 : Nat) tc, I2 ta tc [(0 : Int), (1 : Int)]] (fun _ => by kernel_rfl) (@ho ) (by kernel_rfl) (by kernel_rfl) (by kernel_rfl) ?_)
      refine Xg.ops_op (by kernel_rfl) (Xg.opx_pure ((pv r 0)) rfl (fun _ => by kernel_rfl) ?_)
      refine Xg.ops_nil ?_
      refine Xg.at_seq ?_
      refine Xg.at_block ?_
      refine Xg.at_seq ?_
      refine Xg.at_region ?_
      refine Xg.ops_op (by kernel_rfl) (Xg.opx_pure ((pv r 0)) rfl (fun _ => by kernel_rfl) ?_)
      refine Xg.ops_op (by kernel_rfl) (Xg.opx_pure ((Value.bool false)) rfl (fun _ => by kernel_rfl) ?_)
      refine Xg.ops_op (by kernel_rfl) (Xg.opx_pure ((Value.bool false)) rfl (fun _ => by kernel_rfl) ?_)
      refine Xg.ops_nil ?_
      refine Xg.at_false (t := false) (by kernel_rfl) rfl ?_
      refine Xg.at_seq ?_
      refine Xg.at_region ?_
      refine Xg.ops_op (by kernel_rfl) (Xg.opx_pure ((pv r 0)) rfl (fun _ => by kernel_rfl) ?_)
      refine Xg.ops_op (by kernel_rfl) (Xg.opx_pure ((pv r 0)) rfl (fun _ => by kernel_rfl) ?_)
      refine Xg.ops_op (by kernel_rfl) (Xg.opx_pure ((pv r 2)) rfl (fun _ => by kernel_rfl) ?_)
      refine Xg.ops_op (by kernel_rfl) (Xg.opx_load (b := r) (off := ((2 : Nat))) 3 (Value.slice ta (2 : Nat) tc) rfl (by kernel_rfl) (by kernel_rfl) (by kernel_rfl) ?_)
      refine Xg.ops_op (by kernel_rfl) (Xg.opx_pure ((iv 1)) rfl (fun _ => by kernel_rfl) ?_)
      refine Xg.ops_op (by kernel_rfl) (Xg.opx_call1' [4] [I2 ta tc [(0 : Int), (1 : Int)], H2 p ab ca cc ba bc, A2 ab r, B2 ba bc ((0 : Int), xa, n, n) ((0 : Int), ya, n, n), R2 r q u ta (2 : Nat) tc] (fun _ => by kernel_rfl) (@hc ) (by kernel_rfl) (by kernel_rfl) (by kernel_rfl) ?_)
      refine Xg.ops_op (by kernel_rfl) (Xg.opx_pure (.bool false) rfl (fun _ => by kernel_rfl) ?_)
      refine Xg.ops_op (by kernel_rfl) (Xg.opx_pure ((Value.bool false)) rfl (fun _ => by kernel_rfl) ?_)
      refine Xg.ops_nil ?_
      refine Xg.at_false (t := false) (by kernel_rfl) rfl ?_
      refine Xg.at_skip ?_
      refine Xg.at_inBlock ?_
      refine Xg.at_seq ?_
      refine Xg.at_region ?_
      refine Xg.ops_op (by kernel_rfl) (Xg.opx_pure ((pv p 0)) rfl (fun _ => by kernel_rfl) ?_)
      refine Xg.ops_op (by kernel_rfl) (Xg.opx_pure ((pv p 0)) rfl (fun _ => by kernel_rfl) ?_)
      refine Xg.ops_op (by kernel_rfl) (Xg.opx_pure ((pv p 1)) rfl (fun _ => by kernel_rfl) ?_)
      refine Xg.ops_op (by kernel_rfl) (Xg.opx_load (b := p) (off := ((1 : Nat))) 1 (Value.slice ba (2 : Nat) bc) rfl (by kernel_rfl) (by kernel_rfl) (by kernel_rfl) ?_)
      refine Xg.ops_op (by kernel_rfl) (Xg.opx_pure ((iv 1)) rfl (fun _ => by kernel_rfl) ?_)
      refine Xg.ops_op (by kernel_rfl) (Xg.opx_ix_own (elem := 101) (kd := .i64) (e := ((1 : Int))) 3 2 ((1 : Nat)) ((2 : Nat)) rfl (by kernel_rfl) (by kernel_rfl) (by kernel_rfl) (by kernel_rfl) rfl (by omega) (by omega) ?_)
      refine Xg.ops_op (by kernel_rfl) (Xg.opx_pure ((pv (blk ba) 3)) rfl (fun _ => by kernel_rfl) ?_)
      refine Xg.ops_op (by kernel_rfl) (Xg.opx_load_own (a := ba) (off := ((3 : Nat))) 3 (Value.slice ya n n) rfl (by kernel_rfl) (Xg.get_recs' (wd := 2) (fun _ => rfl) default ((1 : Nat)) 1 (by omega) (by decide) (by omega) (by kernel_rfl)) (by kernel_rfl) ?_)
      refine Xg.ops_op (by kernel_rfl) (Xg.opx_pure ((Value.slice ya n n)) rfl (fun _ => by kernel_rfl) ?_)
      refine Xg.ops_nil ?_
      refine Xg.at_seq ?_
      refine Xg.at_seq ?_
      refine Xg.at_region ?_
      refine Xg.ops_op (by kernel_rfl) (Xg.opx_pure ((iv (↑at0 : Int))) rfl (fun _ => by kernel_rfl) ?_)
      refine Xg.ops_op (by kernel_rfl) (Xg.opx_pure (.bool (decide ((((↑at0 : Int)) : Int) < ((0 : Int))))) rfl (fun _ => by kernel_rfl) ?_)
      refine Xg.ops_op (by kernel_rfl) (Xg.opx_pure ((Value.bool (decide ((↑at0 : Int) < (0 : Int))))) rfl (fun _ => by kernel_rfl) ?_)
      refine Xg.ops_op (by kernel_rfl) (Xg.opx_pure ((iv (↑k : Int))) rfl (fun _ => by kernel_rfl) ?_)
      refine Xg.ops_op (by kernel_rfl) (Xg.opx_pure (.bool (decide ((((↑k : Int)) : Int) < ((0 : Int))))) rfl (fun _ => by kernel_rfl) ?_)
      refine Xg.ops_flag (j := 38) (c := (decide ((↑at0 : Int) < (0 : Int)))) (by kernel_rfl) (fun xh1 => absurd (of_decide_eq_true xh1) (by omega)) (fun _ => ?_)
      refine Xg.ops_flag (j := 40) (c := (decide ((↑k : Int) < (0 : Int)))) (by kernel_rfl) (fun xh1 => absurd (of_decide_eq_true xh1) (by omega)) (fun _ => ?_)
      refine Xg.ops_op (by kernel_rfl) (Xg.opx_pure ((Value.bool false)) rfl (fun _ => by kernel_rfl) ?_)
      refine Xg.ops_op (by kernel_rfl) (Xg.opx_pure ((Value.bool false)) rfl (fun _ => by kernel_rfl) ?_)
      refine Xg.ops_op (by kernel_rfl) (Xg.opx_pure ((iv (↑at0 : Int))) rfl (fun _ => by kernel_rfl) ?_)
      refine Xg.ops_op (by kernel_rfl) (Xg.opx_pure ((Value.slice ya n n)) rfl (fun _ => by kernel_rfl) ?_)
      refine Xg.ops_op (by kernel_rfl) (Xg.opx_pure ((iv (↑n : Int))) rfl (fun _ => by kernel_rfl) ?_)
      refine Xg.ops_op (by kernel_rfl) (Xg.opx_pure (.bool (decide ((((↑at0 : Int)) : Int) > ((↑n : Int))))) rfl (fun _ => by kernel_rfl) ?_)
      refine Xg.ops_flag (j := 46) (c := (decide ((↑at0 : Int) > (↑n : Int)))) (by kernel_rfl) (fun xh1 => absurd (of_decide_eq_true xh1) (by omega)) (fun _ => ?_)
      refine Xg.ops_op (by kernel_rfl) (Xg.opx_pure ((Value.bool false)) rfl (fun _ => by kernel_rfl) ?_)
      refine Xg.ops_op (by kernel_rfl) (Xg.opx_pure ((Value.bool false)) rfl (fun _ => by kernel_rfl) ?_)
      refine Xg.ops_op (by kernel_rfl) (Xg.opx_pure ((iv (↑k : Int))) rfl (fun _ => by kernel_rfl) ?_)
      refine Xg.ops_op (by kernel_rfl) (Xg.opx_pure ((Value.slice ya n n)) rfl (fun _ => by kernel_rfl) ?_)
      refine Xg.ops_op (by kernel_rfl) (Xg.opx_pure ((iv (↑n : Int))) rfl (fun _ => by kernel_rfl) ?_)
      refine Xg.ops_op (by kernel_rfl) (Xg.opx_pure ((iv (↑at0 : Int))) rfl (fun _ => by kernel_rfl) ?_)
      refine Xg.ops_op (by kernel_rfl) (Xg.opx_int .i64 (IntKind.wrap .i64 (((↑n : Int) - (↑at0 : Int)))) rfl (fun _ => by kernel_rfl) (Xg.wrap_i64_in (by omega)) ?_)
      refine Xg.ops_op (by kernel_rfl) (Xg.opx_pure (.bool (decide ((((↑k : Int)) : Int) > ((↑n : Int) - (↑at0 : Int))))) rfl (fun _ => by kernel_rfl) ?_)
      refine Xg.ops_flag (j := 54) (c := (decide ((↑k : Int) > (↑n : Int) - (↑at0 : Int)))) (by kernel_rfl) (fun xh1 => absurd (of_decide_eq_true xh1) (by omega)) (fun _ => ?_)
      refine Xg.ops_op (by kernel_rfl) (Xg.opx_pure ((Value.bool false)) rfl (fun _ => by kernel_rfl) ?_)
      refine Xg.ops_nil ?_
      refine Xg.at_false (t := false) (by kernel_rfl) rfl ?_
      refine Xg.at_skip ?_
      refine Xg.at_seq ?_
      refine Xg.at_region ?_
      refine Xg.ops_op (by kernel_rfl) (Xg.opx_pure ((Value.slice ya n n)) rfl (fun _ => by kernel_rfl) ?_)
      refine Xg.ops_op (by kernel_rfl) (Xg.opx_pure ((iv (↑at0 : Int))) rfl (fun _ => by kernel_rfl) ?_)
      refine Xg.ops_op (by kernel_rfl) (Xg.opx_pure ((iv (↑at0 : Int))) rfl (fun _ => by kernel_rfl) ?_)
      refine Xg.ops_op (by kernel_rfl) (Xg.opx_pure ((iv (↑k : Int))) rfl (fun _ => by kernel_rfl) ?_)
      refine Xg.ops_op (by kernel_rfl) (Xg.opx_int .i64 (IntKind.wrap .i64 (((↑at0 : Int) + (↑k : Int)))) rfl (fun _ => by kernel_rfl) (Xg.wrap_i64_in (by omega)) ?_)
      refine Xg.ops_op (by kernel_rfl) (Xg.opx_pure ((iv (↑at0 : Int))) rfl (fun _ => by kernel_rfl) ?_)
      refine Xg.ops_op (by kernel_rfl) (Xg.opx_pure ((iv (↑k : Int))) rfl (fun _ => by kernel_rfl) ?_)
      refine Xg.ops_op (by kernel_rfl) (Xg.opx_int .i64 (IntKind.wrap .i64 (((↑at0 : Int) + (↑k : Int)))) rfl (fun _ => by kernel_rfl) (Xg.wrap_i64_in (by omega)) ?_)
      refine Xg.ops_op (by kernel_rfl) (Xg.opx_run (.slice (Xg.subA ya (((↑at0 : Int) + (↑k : Int)).toNat) at0 1) ((((↑at0 : Int) + (↑k : Int)).toNat) - at0) ((((↑at0 : Int) + (↑k : Int)).toNat) - at0)) rfl (Xg.run_sl3 (elem := 5) (a := ya) (c := n) (len := n) (k1 := .i64) (k2 := .i64) (k3 := .i64) (e1 := ((↑at0 : Int))) (e2 := ((↑at0 : Int) + (↑k : Int))) (e3 := ((↑at0 : Int) + (↑k : Int))) 1 at0 (((↑at0 : Int) + (↑k : Int)).toNat) (((↑at0 : Int) + (↑k : Int)).toNat) (by kernel_rfl) (by kernel_rfl) (by kernel_rfl) (by kernel_rfl) (by kernel_rfl) (by kernel_rfl) rfl (by omega) (by omega) (by omega) (by omega) (by omega)) ?_)
      refine Xg.ops_op (by kernel_rfl) (Xg.opx_pure ((Value.slice (subA ya ((↑at0 : Int) + (↑k : Int)).toNat at0 (1 : Nat)) (((↑at0 : Int) + (↑k : Int)).toNat - at0) (((↑at0 : Int) + (↑k : Int)).toNat - at0))) rfl (fun _ => by kernel_rfl) ?_)
      refine Xg.ops_op (by kernel_rfl) (Xg.opx_pure ((iv 0)) rfl (fun _ => by kernel_rfl) ?_)
      refine Xg.ops_nil ?_
      refine Xg.at_ret_ps (v := (Value.tuple #[Value.slice (subA ya ((↑at0 : Int) + (↑k : Int)).toNat at0 (1 : Nat)) (((↑at0 : Int) + (↑k : Int)).toNat - at0) (((↑at0 : Int) + (↑k : Int)).toNat - at0), iv 0])) [1, 3, 2, 4, 0] [H2 p ab ca cc ba bc, B2 ba bc ((0 : Int), xa, n, n) ((0 : Int), ya, n, n), A2 ab r, R2 r q u ta (2 : Nat) tc, I2 ta tc [(0 : Int), (1 : Int)]] Go.Proofs.Try.func43 (fun _ => by kernel_rfl) (by kernel_rfl) (by kernel_rfl) ?_)
    exact ⟨by rw [show ((at0 : Int) + (k : Int)).toNat = at0 + k from by omega, show at0 + k - at0 = k from by omega], rfl⟩
theorem span_err (at0 k : Int) (h : at0 < 0 ∨ k < 0 ∨ at0 > n ∨ k > n - at0) (h1 : -9000000000000000000 ≤ at0 ∧ at0 ≤ 9000000000000000000) (h2 : -9000000000000000000 ≤ k ∧ k ≤ 9000000000000000000) : Does Try.prog 43 [.pointer (some ⟨p, 0, none⟩), .int .i64 0, .int .i64 0, .int .i64 at0, .int .i64 k] [H2 p ab ca cc ba bc, B2 ba bc (0, xa, n, n) (0, ya, n, n), A2 ab r, R2 r q u ta 2 tc, I2 ta tc [0, 1]]
    (Ret (.tuple #[.slice none 0 0, .int .i64 98]) [H2 p ab ca cc ba bc, B2 ba bc (0, xa, n, n) (0, ya, n, n), A2 ab r, R2 r q u ta 2 tc, I2 ta tc [0, 1]]) := by
  have ho := of1_d p ab r ca cc ba bc
  have hc := contains_d ta tc 0 (by decide)
  have hl3 : ([((0 : Int), xa, n, n), (0, ya, n, n)] : List (Int × Option Addr × Nat × Nat)).length = 2 := rfl
  (focus
    refine Xg.spec_of Go.Proofs.Try.func43 rfl Go.Proofs.Try.ntmps43 fun g F => ?_)
  (focus
    refine Xg.at_seq ?_
    refine Xg.at_region ?_
    refine Xg.ops_op (by kernel_rfl) (Xg.opx_pure ((Value.slice none (0 : Nat) (0 : Nat))) rfl (fun _ => by kernel_rfl) ?_)
    refine Xg.ops_op (by kernel_rfl) (Xg.opx_pure ((iv 0)) rfl (fun _ => by kernel_rfl) ?_)
    refine Xg.ops_nil ?_
    refine Xg.at_seq ?_
    refine Xg.at_region ?_
    refine Xg.ops_op (by kernel_rfl) (Xg.opx_pure ((pv p 0)) rfl (fun _ => by kernel_rfl) ?_)
    refine Xg.ops_op (by kernel_rfl) (Xg.opx_pure ((iv 0)) rfl (fun _ => by kernel_rfl) ?_)
    refine Xg.ops_op (by kernel_rfl) (Xg.opx_call1' [0, 2] [H2 p ab ca cc ba bc, A2 ab r, B2 ba bc ((0 : Int), xa, n, n) ((0 : Int), ya, n, n), R2 r q u ta (2 : Nat) tc, I2 ta tc [(0 : Int), (1 : Int)]] (fun _ => by kernel_rfl) (@ho ) (by kernel_rfl) (by kernel_rfl) (by kernel_rfl) ?_)
    refine Xg.ops_op (by kernel_rfl) (Xg.opx_pure ((pv r 0)) rfl (fun _ => by kernel_rfl) ?_)
    refine Xg.ops_nil ?_
    refine Xg.at_seq ?_
    refine Xg.at_block ?_
    refine Xg.at_seq ?_
    refine Xg.at_region ?_
    refine Xg.ops_op (by kernel_rfl) (Xg.opx_pure ((pv r 0)) rfl (fun _ => by kernel_rfl) ?_)
    refine Xg.ops_op (by kernel_rfl) (Xg.opx_pure ((Value.bool false)) rfl (fun _ => by kernel_rfl) ?_)
    refine Xg.ops_op (by kernel_rfl) (Xg.opx_pure ((Value.bool false)) rfl (fun _ => by kernel_rfl) ?_)
    refine Xg.ops_nil ?_
    refine Xg.at_false (t := false) (by kernel_rfl) rfl ?_
    refine Xg.at_seq ?_
    refine Xg.at_region ?_
    refine Xg.ops_op (by kernel_rfl) (Xg.opx_pure ((pv r 0)) rfl (fun _ => by kernel_rfl) ?_)
    refine Xg.ops_op (by kernel_rfl) (Xg.opx_pure ((pv r 0)) rfl (fun _ => by kernel_rfl) ?_)
    refine Xg.ops_op (by kernel_rfl) (Xg.opx_pure ((pv r 2)) rfl (fun _ => by kernel_rfl) ?_)
    refine Xg.ops_op (by kernel_rfl) (Xg.opx_load (b := r) (off := ((2 : Nat))) 3 (Value.slice ta (2 : Nat) tc) rfl (by kernel_rfl) (by kernel_rfl) (by kernel_rfl) ?_)
    refine Xg.ops_op (by kernel_rfl) (Xg.opx_pure ((iv 0)) rfl (fun _ => by kernel_rfl) ?_)
    refine Xg.ops_op (by kernel_rfl) (Xg.opx_call1' [4] [I2 ta tc [(0 : Int), (1 : Int)], H2 p ab ca cc ba bc, A2 ab r, B2 ba bc ((0 : Int), xa, n, n) ((0 : Int), ya, n, n), R2 r q u ta (2 : Nat) tc] (fun _ => by kernel_rfl) (@hc ) (by kernel_rfl) (by kernel_rfl) (by kernel_rfl) ?_)
    refine Xg.ops_op (by kernel_rfl) (Xg.opx_pure (.bool false) rfl (fun _ => by kernel_rfl) ?_)
    refine Xg.ops_op (by kernel_rfl) (Xg.opx_pure ((Value.bool false)) rfl (fun _ => by kernel_rfl) ?_)
    refine Xg.ops_nil ?_
    refine Xg.at_false (t := false) (by kernel_rfl) rfl ?_
    refine Xg.at_skip ?_
    refine Xg.at_inBlock ?_
    refine Xg.at_seq ?_
    refine Xg.at_region ?_
    refine Xg.ops_op (by kernel_rfl) (Xg.opx_pure ((pv p 0)) rfl (fun _ => by kernel_rfl) ?_)
    refine Xg.ops_op (by kernel_rfl) (Xg.opx_pure ((pv p 0)) rfl (fun _ => by kernel_rfl) ?_)
    refine Xg.ops_op (by kernel_rfl) (Xg.opx_pure ((pv p 1)) rfl (fun _ => by kernel_rfl) ?_)
    refine Xg.ops_op (by kernel_rfl) (Xg.opx_load (b := p) (off := ((1 : Nat))) 1 (Value.slice ba (2 : Nat) bc) rfl (by kernel_rfl) (by kernel_rfl) (by kernel_rfl) ?_)
    refine Xg.ops_op (by kernel_rfl) (Xg.opx_pure ((iv 0)) rfl (fun _ => by kernel_rfl) ?_)
    refine Xg.ops_op (by kernel_rfl) (Xg.opx_ix_own (elem := 101) (kd := .i64) (e := ((0 : Int))) 3 2 ((0 : Nat)) ((0 : Nat)) rfl (by kernel_rfl) (by kernel_rfl) (by kernel_rfl) (by kernel_rfl) rfl (by omega) (by omega) ?_)
    refine Xg.ops_op (by kernel_rfl) (Xg.opx_pure ((pv (blk ba) 1)) rfl (fun _ => by kernel_rfl) ?_)
    refine Xg.ops_op (by kernel_rfl) (Xg.opx_load_own (a := ba) (off := ((1 : Nat))) 3 (Value.slice xa n n) rfl (by kernel_rfl) (Xg.get_recs' (wd := 2) (fun _ => rfl) default ((0 : Nat)) 1 (by omega) (by decide) (by omega) (by kernel_rfl)) (by kernel_rfl) ?_)
    refine Xg.ops_op (by kernel_rfl) (Xg.opx_pure ((Value.slice xa n n)) rfl (fun _ => by kernel_rfl) ?_)
    refine Xg.ops_nil ?_
    refine Xg.at_seq ?_
    refine Xg.at_seq ?_
    refine Xg.at_region ?_
    refine Xg.ops_op (by kernel_rfl) (Xg.opx_pure ((iv at0)) rfl (fun _ => by kernel_rfl) ?_)
    refine Xg.ops_op (by kernel_rfl) (Xg.opx_pure (.bool (decide ((at0 : Int) < ((0 : Int))))) rfl (fun _ => by kernel_rfl) ?_)
    refine Xg.ops_op (by kernel_rfl) (Xg.opx_pure ((Value.bool (decide (at0 < (0 : Int))))) rfl (fun _ => by kernel_rfl) ?_)
    refine Xg.ops_flag (j := 38) (c := (decide (at0 < (0 : Int)))) (by kernel_rfl) (fun xh1 => ?_) (fun xh1 => ?_)
    replace xh1 : (at0 < (0 : Int)) := of_decide_eq_true xh1
    rotate_left
    replace xh1 : ¬ ((at0 < (0 : Int))) := of_decide_eq_false xh1
    rotate_right
    refine Xg.ops_skip (by kernel_rfl) ?_
    refine Xg.ops_skip (by kernel_rfl) ?_
    refine Xg.ops_op (by kernel_rfl) (Xg.opx_pure ((Value.bool true)) rfl (fun _ => by kernel_rfl) ?_)
    refine Xg.ops_op (by kernel_rfl) (Xg.opx_pure ((Value.bool true)) rfl (fun _ => by kernel_rfl) ?_)
    refine Xg.ops_skip (by kernel_rfl) ?_
    refine Xg.ops_skip (by kernel_rfl) ?_
    refine Xg.ops_skip (by kernel_rfl) ?_
    refine Xg.ops_skip (by kernel_rfl) ?_
    refine Xg.ops_op (by kernel_rfl) (Xg.opx_pure ((Value.bool true)) rfl (fun _ => by kernel_rfl) ?_)
    refine Xg.ops_op (by kernel_rfl) (Xg.opx_pure ((Value.bool true)) rfl (fun _ => by kernel_rfl) ?_)
    refine Xg.ops_skip (by kernel_rfl) ?_
    refine Xg.ops_skip (by kernel_rfl) ?_
    refine Xg.ops_skip (by kernel_rfl) ?_
    refine Xg.ops_skip (by kernel_rfl) ?_
    refine Xg.ops_skip (by kernel_rfl) ?_
    refine Xg.ops_skip (by kernel_rfl) ?_
    refine Xg.ops_op (by kernel_rfl) (Xg.opx_pure ((Value.bool true)) rfl (fun _ => by kernel_rfl) ?_)
    refine Xg.ops_nil ?_
    refine Xg.at_true (t := true) (by kernel_rfl) rfl ?_
    refine Xg.at_seq ?_
    refine Xg.at_region ?_
    refine Xg.ops_op (by kernel_rfl) (Xg.opx_pure ((Value.slice none (0 : Nat) (0 : Nat))) rfl (fun _ => by kernel_rfl) ?_)
    refine Xg.ops_op (by kernel_rfl) (Xg.opx_pure ((iv 98)) rfl (fun _ => by kernel_rfl) ?_)
    refine Xg.ops_nil ?_
    refine Xg.at_ret_ps (v := (Value.tuple #[Value.slice none (0 : Nat) (0 : Nat), iv 98])) [1, 3, 2, 4, 0] [H2 p ab ca cc ba bc, B2 ba bc ((0 : Int), xa, n, n) ((0 : Int), ya, n, n), A2 ab r, R2 r q u ta (2 : Nat) tc, I2 ta tc [(0 : Int), (1 : Int)]] Go.Proofs.Try.func43 (fun _ => by kernel_rfl) (by kernel_rfl) (by kernel_rfl) ?_
    exact ⟨by kernel_rfl, by kernel_rfl⟩
    refine Xg.ops_op (by kernel_rfl) (Xg.opx_pure ((iv k)) rfl (fun _ => by kernel_rfl) ?_)
    refine Xg.ops_op (by kernel_rfl) (Xg.opx_pure (.bool (decide ((k : Int) < ((0 : Int))))) rfl (fun _ => by kernel_rfl) ?_)
    refine Xg.ops_flag (j := 40) (c := (decide (k < (0 : Int)))) (by kernel_rfl) (fun xh2 => ?_) (fun xh2 => ?_)
    replace xh2 : (k < (0 : Int)) := of_decide_eq_true xh2
    rotate_left
    replace xh2 : ¬ ((k < (0 : Int))) := of_decide_eq_false xh2
    rotate_right
    refine Xg.ops_op (by kernel_rfl) (Xg.opx_pure ((Value.bool true)) rfl (fun _ => by kernel_rfl) ?_)
    refine Xg.ops_op (by kernel_rfl) (Xg.opx_pure ((Value.bool true)) rfl (fun _ => by kernel_rfl) ?_)
    refine Xg.ops_skip (by kernel_rfl) ?_
    refine Xg.ops_skip (by kernel_rfl) ?_
    refine Xg.ops_skip (by kernel_rfl) ?_
    refine Xg.ops_skip (by kernel_rfl) ?_
    refine Xg.ops_op (by kernel_rfl) (Xg.opx_pure ((Value.bool true)) rfl (fun _ => by kernel_rfl) ?_)
    refine Xg.ops_op (by kernel_rfl) (Xg.opx_pure ((Value.bool true)) rfl (fun _ => by kernel_rfl) ?_)
    refine Xg.ops_skip (by kernel_rfl) ?_
    refine Xg.ops_skip (by kernel_rfl) ?_
    refine Xg.ops_skip (by kernel_rfl) ?_
    refine Xg.ops_skip (by kernel_rfl) ?_
    refine Xg.ops_skip (by kernel_rfl) ?_
    refine Xg.ops_skip (by kernel_rfl) ?_
    refine Xg.ops_op (by kernel_rfl) (Xg.opx_pure ((Value.bool true)) rfl (fun _ => by kernel_rfl) ?_)
    refine Xg.ops_nil ?_
    refine Xg.at_true (t := true) (by kernel_rfl) rfl ?_
    refine Xg.at_seq ?_
    refine Xg.at_region ?_
    refine Xg.ops_op (by kernel_rfl) (Xg.opx_pure ((Value.slice none (0 : Nat) (0 : Nat))) rfl (fun _ => by kernel_rfl) ?_)
    refine Xg.ops_op (by kernel_rfl) (Xg.opx_pure ((iv 98)) rfl (fun _ => by kernel_rfl) ?_)
    refine Xg.ops_nil ?_
    refine Xg.at_ret_ps (v := (Value.tuple #[Value.slice none (0 : Nat) (0 : Nat), iv 98])) [1, 3, 2, 4, 0] [H2 p ab ca cc ba bc, B2 ba bc ((0 : Int), xa, n, n) ((0 : Int), ya, n, n), A2 ab r, R2 r q u ta (2 : Nat) tc, I2 ta tc [(0 : Int), (1 : Int)]] Go.Proofs.Try.func43 (fun _ => by kernel_rfl) (by kernel_rfl) (by kernel_rfl) ?_
    exact ⟨by kernel_rfl, by kernel_rfl⟩
    refine Xg.ops_op (by kernel_rfl) (Xg.opx_pure ((Value.bool false)) rfl (fun _ => by kernel_rfl) ?_)
    refine Xg.ops_op (by kernel_rfl) (Xg.opx_pure ((Value.bool false)) rfl (fun _ => by kernel_rfl) ?_)
    refine Xg.ops_op (by kernel_rfl) (Xg.opx_pure ((iv at0)) rfl (fun _ => by kernel_rfl) ?_)
    refine Xg.ops_op (by kernel_rfl) (Xg.opx_pure ((Value.slice xa n n)) rfl (fun _ => by kernel_rfl) ?_)
    refine Xg.ops_op (by kernel_rfl) (Xg.opx_pure ((iv (↑n : Int))) rfl (fun _ => by kernel_rfl) ?_)
    refine Xg.ops_op (by kernel_rfl) (Xg.opx_pure (.bool (decide ((at0 : Int) > ((↑n : Int))))) rfl (fun _ => by kernel_rfl) ?_)
    refine Xg.ops_flag (j := 46) (c := (decide (at0 > (↑n : Int)))) (by kernel_rfl) (fun xh3 => ?_) (fun xh3 => ?_)
    replace xh3 : (at0 > (↑n : Int)) := of_decide_eq_true xh3
    rotate_left
    replace xh3 : ¬ ((at0 > (↑n : Int))) := of_decide_eq_false xh3
    rotate_right
    refine Xg.ops_op (by kernel_rfl) (Xg.opx_pure ((Value.bool true)) rfl (fun _ => by kernel_rfl) ?_)
    refine Xg.ops_op (by kernel_rfl) (Xg.opx_pure ((Value.bool true)) rfl (fun _ => by kernel_rfl) ?_)
    refine Xg.ops_skip (by kernel_rfl) ?_
    refine Xg.ops_skip (by kernel_rfl) ?_
    refine Xg.ops_skip (by kernel_rfl) ?_
    refine Xg.ops_skip (by kernel_rfl) ?_
    refine Xg.ops_skip (by kernel_rfl) ?_
    refine Xg.ops_skip (by kernel_rfl) ?_
    refine Xg.ops_op (by kernel_rfl) (Xg.opx_pure ((Value.bool true)) rfl (fun _ => by kernel_rfl) ?_)
    refine Xg.ops_nil ?_
    refine Xg.at_true (t := true) (by kernel_rfl) rfl ?_
    refine Xg.at_seq ?_
    refine Xg.at_region ?_
    refine Xg.ops_op (by kernel_rfl) (Xg.opx_pure ((Value.slice none (0 : Nat) (0 : Nat))) rfl (fun _ => by kernel_rfl) ?_)
    refine Xg.ops_op (by kernel_rfl) (Xg.opx_pure ((iv 98)) rfl (fun _ => by kernel_rfl) ?_)
    refine Xg.ops_nil ?_
    refine Xg.at_ret_ps (v := (Value.tuple #[Value.slice none (0 : Nat) (0 : Nat), iv 98])) [1, 3, 2, 4, 0] [H2 p ab ca cc ba bc, B2 ba bc ((0 : Int), xa, n, n) ((0 : Int), ya, n, n), A2 ab r, R2 r q u ta (2 : Nat) tc, I2 ta tc [(0 : Int), (1 : Int)]] Go.Proofs.Try.func43 (fun _ => by kernel_rfl) (by kernel_rfl) (by kernel_rfl) ?_
    exact ⟨by kernel_rfl, by kernel_rfl⟩
    refine Xg.ops_op (by kernel_rfl) (Xg.opx_pure ((Value.bool false)) rfl (fun _ => by kernel_rfl) ?_)
    refine Xg.ops_op (by kernel_rfl) (Xg.opx_pure ((Value.bool false)) rfl (fun _ => by kernel_rfl) ?_)
    refine Xg.ops_op (by kernel_rfl) (Xg.opx_pure ((iv k)) rfl (fun _ => by kernel_rfl) ?_)
    refine Xg.ops_op (by kernel_rfl) (Xg.opx_pure ((Value.slice xa n n)) rfl (fun _ => by kernel_rfl) ?_)
    refine Xg.ops_op (by kernel_rfl) (Xg.opx_pure ((iv (↑n : Int))) rfl (fun _ => by kernel_rfl) ?_)
    refine Xg.ops_op (by kernel_rfl) (Xg.opx_pure ((iv at0)) rfl (fun _ => by kernel_rfl) ?_)
    refine Xg.ops_op (by kernel_rfl) (Xg.opx_int .i64 (IntKind.wrap .i64 (((↑n : Int) - at0))) rfl (fun _ => by kernel_rfl) (Xg.wrap_i64_in (by omega)) ?_)
    refine Xg.ops_op (by kernel_rfl) (Xg.opx_pure (.bool (decide ((k : Int) > ((↑n : Int) - at0)))) rfl (fun _ => by kernel_rfl) ?_)
    refine Xg.ops_flag (j := 54) (c := (decide (k > (↑n : Int) - at0))) (by kernel_rfl) (fun _ => ?_) (fun xh4 => absurd (of_decide_eq_false xh4) (by omega))
    refine Xg.ops_op (by kernel_rfl) (Xg.opx_pure ((Value.bool true)) rfl (fun _ => by kernel_rfl) ?_)
    refine Xg.ops_nil ?_
    refine Xg.at_true (t := true) (by kernel_rfl) rfl ?_
    refine Xg.at_seq ?_
    refine Xg.at_region ?_
    refine Xg.ops_op (by kernel_rfl) (Xg.opx_pure ((Value.slice none (0 : Nat) (0 : Nat))) rfl (fun _ => by kernel_rfl) ?_)
    refine Xg.ops_op (by kernel_rfl) (Xg.opx_pure ((iv 98)) rfl (fun _ => by kernel_rfl) ?_)
    refine Xg.ops_nil ?_
    refine Xg.at_ret_ps (v := (Value.tuple #[Value.slice none (0 : Nat) (0 : Nat), iv 98])) [1, 3, 2, 4, 0] [H2 p ab ca cc ba bc, B2 ba bc ((0 : Int), xa, n, n) ((0 : Int), ya, n, n), A2 ab r, R2 r q u ta (2 : Nat) tc, I2 ta tc [(0 : Int), (1 : Int)]] Go.Proofs.Try.func43 (fun _ => by kernel_rfl) (by kernel_rfl) (by kernel_rfl) ?_
    exact ⟨by kernel_rfl, by kernel_rfl⟩)
end

theorem clone_d (A : HP) (a : Option Addr) (k : Nat) (ys : List Int) (hy : ys.length = k) (hk : k ≤ 300) (ha : a.isNone = false) (hR : Reads A 1 (.slice a k k) k (ys.map (Value.int .u8))) : Does Try.prog 44 [.slice a k k] [A]
    (RetE (fun z : Option Addr × Nat => True) (fun z => .slice z.1 k z.2) (fun z => [A, Y2 z.1 z.2 ys])) := by
  (focus
    refine Xg.spec_of Go.Proofs.Try.func44 rfl Go.Proofs.Try.ntmps44 fun g F => ?_)
  (focus
    refine Xg.at_seq ?_
    refine Xg.at_region ?_
    refine Xg.ops_op (by kernel_rfl) (Xg.opx_pure ((Value.slice none (0 : Nat) (0 : Nat))) rfl (fun _ => by kernel_rfl) ?_)
    refine Xg.ops_nil ?_
    refine Xg.at_seq ?_
    refine Xg.at_seq ?_
    refine Xg.at_region ?_
    refine Xg.ops_op (by kernel_rfl) (Xg.opx_pure ((Value.slice a k k)) rfl (fun _ => by kernel_rfl) ?_)
    refine Xg.ops_op (by kernel_rfl) (Xg.opx_run (.bool (Option.isNone a)) rfl (Xg.run_slnil (elem := 5) (c := k) (len := k) (by kernel_rfl) (by kernel_rfl) (by kernel_rfl)) ?_)
    refine Xg.ops_nil ?_
    refine Xg.at_cond (t := a.isNone) (by kernel_rfl) (fun xh1 => ?_) (fun xh1 => ?_)
    refine Xg.at_seq ?_
    refine Xg.at_region ?_
    refine Xg.ops_op (by kernel_rfl) (Xg.opx_pure ((Value.slice none (0 : Nat) (0 : Nat))) rfl (fun _ => by kernel_rfl) ?_)
    refine Xg.ops_nil ?_
    rotate_left
    refine Xg.at_skip ?_
    refine Xg.at_seq ?_
    refine Xg.at_region ?_
    refine Xg.ops_op (by kernel_rfl) (Xg.opx_bs (elem := 5) 1 [] [] (by kernel_rfl) (by kernel_rfl) (by decide) rfl (by kernel_rfl) (by kernel_rfl) (by kernel_rfl) (by kernel_rfl) fun xb1 => ?_)
    refine Xg.ops_op (by kernel_rfl) (Xg.opx_pure ((Value.slice a k k)) rfl (fun _ => by kernel_rfl) ?_)
    refine Xg.ops_row_ints 0 .u8 [] rfl rfl (Nat.le_of_ble_eq_true (by kernel_rfl)) ?_
    refine Xg.ops_op (by kernel_rfl) (Xg.opx_append_ints (kd := .u8) (yv := (Value.slice a k k)) (m := k) (xs := []) (elem := 5) 0 1 ys rfl (by kernel_rfl) (by kernel_rfl) (by kernel_rfl) (by kernel_rfl) (by first | rfl | assumption | omega | (simp; done) | (simp; omega)) (fun _ hS => Xg.reads_rd hR 1 rfl hS) (by first | omega | (simp only [List.length_nil, List.length_cons]; omega) | (simp; omega)) (by first | omega | (simp only [List.length_nil, List.length_cons]; omega) | (simp; omega)) fun xa1 xc1 => ?_)
    have xl1 : ([] ++ ys : List Int).length = ([] : List Int).length + k := by first | (simp; done) | (simp; omega)
    refine Xg.ops_op (by kernel_rfl) (Xg.opx_pure ((Value.slice xa1 ([] ++ ys).length xc1)) rfl (fun _ => by kernel_rfl) ?_)
    refine Xg.ops_nil ?_)
  · rw [List.nil_append, hy]
    (focus
      refine Xg.at_ret_ps (v := (Value.slice xa1 k xc1)) [1, 0] [A, ints (5 : TypeId) IntKind.u8 xa1 xc1 ys] Go.Proofs.Try.func44 (fun _ => by kernel_rfl) (by kernel_rfl) (by kernel_rfl) ?_
      refine ⟨((xa1, xc1)), trivial, by kernel_rfl, by kernel_rfl⟩)
  · rw [ha] at xh1; cases xh1

section
variable (p ab r : Nat) (ca : Option Addr) (cc : Nat) (ba : Option Addr) (bc n : Nat) (hn : 1 ≤ n) (hn3 : n ≤ 300) (q u : Int) (xa ya ta : Option Addr) (tc : Nat)
theorem subA_zero (a : Option Addr) (c : Nat) (ha : a.isNone = false) : (Xg.subA a c 0 1).isNone = false := by
  unfold subA
  split
  · exact ha
  · cases a <;> simp at ha ⊢
include hn hn3
theorem load_ok (b : Nat) (hb : b < 2) (za : Option Addr) (hz : za = if b = 0 then xa else ya) (hza : za.isNone = false) (zs : List Int) (hzs : zs.length = n) : Does Try.prog 19 [.pointer (some ⟨p, 0, none⟩), .int .i64 0, .int .i64 (b : Nat), .int .i64 0, .int .i64 (n : Nat)] [H2 p ab ca cc ba bc, B2 ba bc (0, xa, n, n) (0, ya, n, n), A2 ab r, R2 r q u ta 2 tc, I2 ta tc [0, 1], Y2 za n zs]
    (RetE (fun z : Option Addr × Nat => True) (fun z => .tuple #[.slice z.1 zs.length z.2, .int .i64 0]) (fun z => [H2 p ab ca cc ba bc, B2 ba bc (0, xa, n, n) (0, ya, n, n), A2 ab r, R2 r q u ta 2 tc, I2 ta tc [0, 1], Y2 za n zs, Y2 z.1 z.2 zs])) := by
  have hs := span_ok p ab r ca cc ba bc n hn hn3 q u xa ya ta tc b hb 0 n (by omega)
  rw [← hz, Nat.zero_add] at hs
  have hr : Reads (Y2 za n zs) 1 (.slice (Xg.subA za n 0 1) n n) n (zs.map (Value.int .u8)) := by
    have := reads_ints_part (E := 5) (kd := .u8) (xs := zs) (c := n) (a := za) 0 n (Nat.zero_le _) (by omega)
    rwa [List.drop_zero, Nat.sub_zero, ← hzs, List.take_length, hzs] at this
  rw [hzs]
  have hc := clone_d (Y2 za n zs) (Xg.subA za n 0 1) n zs hzs hn3 (subA_zero za n hza) hr
  (focus
    refine Xg.spec_of Go.Proofs.Try.func19 rfl Go.Proofs.Try.ntmps19 fun g F => ?_)
  (focus
    refine Xg.at_seq ?_
    refine Xg.at_region ?_
    refine Xg.ops_op (by kernel_rfl) (Xg.opx_pure ((Value.slice none (0 : Nat) (0 : Nat))) rfl (fun _ => by kernel_rfl) ?_)
    refine Xg.ops_op (by kernel_rfl) (Xg.opx_pure ((iv 0)) rfl (fun _ => by kernel_rfl) ?_)
    refine Xg.ops_nil ?_
    refine Xg.at_seq ?_
    refine Xg.at_region ?_
    refine Xg.ops_op (by kernel_rfl) (Xg.opx_pure ((pv p 0)) rfl (fun _ => by kernel_rfl) ?_)
    refine Xg.ops_op (by kernel_rfl) (Xg.opx_pure ((iv 0)) rfl (fun _ => by kernel_rfl) ?_)
    refine Xg.ops_op (by kernel_rfl) (Xg.opx_pure ((iv (↑b : Int))) rfl (fun _ => by kernel_rfl) ?_)
    refine Xg.ops_op (by kernel_rfl) (Xg.opx_pure ((iv 0)) rfl (fun _ => by kernel_rfl) ?_)
    refine Xg.ops_op (by kernel_rfl) (Xg.opx_pure ((iv (↑n : Int))) rfl (fun _ => by kernel_rfl) ?_)
    refine Xg.ops_op (by kernel_rfl) (Xg.opx_call1' [0, 1, 2, 3, 4] [H2 p ab ca cc ba bc, B2 ba bc ((0 : Int), xa, n, n) ((0 : Int), ya, n, n), A2 ab r, R2 r q u ta (2 : Nat) tc, I2 ta tc [(0 : Int), (1 : Int)], Y2 za n zs] (fun _ => by kernel_rfl) (@hs ) (by kernel_rfl) (by kernel_rfl) (by kernel_rfl) ?_)
    refine Xg.ops_op (by kernel_rfl) (Xg.opx_pure ((Value.tuple #[Value.slice (subA za n (0 : Nat) (1 : Nat)) n n, iv 0])) rfl (fun _ => by kernel_rfl) ?_)
    refine Xg.ops_op (by kernel_rfl) (Xg.opx_pure ((Value.slice (subA za n (0 : Nat) (1 : Nat)) n n)) rfl (fun _ => by kernel_rfl) ?_)
    refine Xg.ops_op (by kernel_rfl) (Xg.opx_pure ((iv 0)) rfl (fun _ => by kernel_rfl) ?_)
    refine Xg.ops_op (by kernel_rfl) (Xg.opx_pure ((Value.slice (subA za n (0 : Nat) (1 : Nat)) n n)) rfl (fun _ => by kernel_rfl) ?_)
    refine Xg.ops_op (by kernel_rfl) (Xg.opx_pure ((iv 0)) rfl (fun _ => by kernel_rfl) ?_)
    refine Xg.ops_nil ?_
    refine Xg.at_seq ?_
    refine Xg.at_region ?_
    refine Xg.ops_op (by kernel_rfl) (Xg.opx_pure ((Value.slice (subA za n (0 : Nat) (1 : Nat)) n n)) rfl (fun _ => by kernel_rfl) ?_)
    refine Xg.ops_op (by kernel_rfl) (Xg.opx_callE' [5] (fun xx1 => [Y2 za n zs, Y2 xx1.fst xx1.snd zs, H2 p ab ca cc ba bc, B2 ba bc ((0 : Int), xa, n, n) ((0 : Int), ya, n, n), A2 ab r, R2 r q u ta (2 : Nat) tc, I2 ta tc [(0 : Int), (1 : Int)]]) (fun _ => by kernel_rfl) (@hc ) (by kernel_rfl) (by kernel_rfl) (by kernel_rfl) fun xx1 xh1 => ?_)
    try dsimp only at xh1
    refine Xg.ops_op (by kernel_rfl) (Xg.opx_pure ((iv 0)) rfl (fun _ => by kernel_rfl) ?_)
    refine Xg.ops_op (by kernel_rfl) (Xg.opx_pure ((Value.slice xx1.fst n xx1.snd)) rfl (fun _ => by kernel_rfl) ?_)
    refine Xg.ops_op (by kernel_rfl) (Xg.opx_pure ((iv 0)) rfl (fun _ => by kernel_rfl) ?_)
    refine Xg.ops_nil ?_
    refine Xg.at_ret_ps (v := (Value.tuple #[Value.slice xx1.fst n xx1.snd, iv 0])) [2, 3, 4, 5, 6, 0, 1] [H2 p ab ca cc ba bc, B2 ba bc ((0 : Int), xa, n, n) ((0 : Int), ya, n, n), A2 ab r, R2 r q u ta (2 : Nat) tc, I2 ta tc [(0 : Int), (1 : Int)], Y2 za n zs, Y2 xx1.fst xx1.snd zs] Go.Proofs.Try.func19 (fun _ => by kernel_rfl) (by kernel_rfl) (by kernel_rfl) ?_
    refine ⟨((xx1.fst, xx1.snd)), trivial, by kernel_rfl, by kernel_rfl⟩)
theorem load_err (at0 k : Int) (h : at0 < 0 ∨ k < 0 ∨ at0 > n ∨ k > n - at0) (h1 : -9000000000000000000 ≤ at0 ∧ at0 ≤ 9000000000000000000) (h2 : -9000000000000000000 ≤ k ∧ k ≤ 9000000000000000000) : Does Try.prog 19 [.pointer (some ⟨p, 0, none⟩), .int .i64 0, .int .i64 0, .int .i64 at0, .int .i64 k] [H2 p ab ca cc ba bc, B2 ba bc (0, xa, n, n) (0, ya, n, n), A2 ab r, R2 r q u ta 2 tc, I2 ta tc [0, 1]]
    (Ret (.tuple #[.slice none 0 0, .int .i64 98]) [H2 p ab ca cc ba bc, B2 ba bc (0, xa, n, n) (0, ya, n, n), A2 ab r, R2 r q u ta 2 tc, I2 ta tc [0, 1]]) := by
  have hs := span_err p ab r ca cc ba bc n hn hn3 q u xa ya ta tc at0 k h h1 h2
  have hc : Does Try.prog 44 [.slice none 0 0] [] (Ret (.slice none 0 0) []) := by
    (focus
      refine Xg.spec_of Go.Proofs.Try.func44 rfl Go.Proofs.Try.ntmps44 fun g F => ?_)
    (focus
      refine Xg.at_seq ?_
      refine Xg.at_region ?_
      refine Xg.ops_op (by kernel_rfl) (Xg.opx_pure ((Value.slice none (0 : Nat) (0 : Nat))) rfl (fun _ => by kernel_rfl) ?_)
      refine Xg.ops_nil ?_
      refine Xg.at_seq ?_
      refine Xg.at_seq ?_
      refine Xg.at_region ?_
      refine Xg.ops_op (by kernel_rfl) (Xg.opx_pure ((Value.slice none (0 : Nat) (0 : Nat))) rfl (fun _ => by kernel_rfl) ?_)
      refine Xg.ops_op (by kernel_rfl) (Xg.opx_pure ((Value.bool true)) rfl (fun _ => by kernel_rfl) ?_)
      refine Xg.ops_nil ?_
      refine Xg.at_true (t := true) (by kernel_rfl) rfl ?_
      refine Xg.at_seq ?_
      refine Xg.at_region ?_
      refine Xg.ops_op (by kernel_rfl) (Xg.opx_pure ((Value.slice none (0 : Nat) (0 : Nat))) rfl (fun _ => by kernel_rfl) ?_)
      refine Xg.ops_nil ?_
      refine Xg.at_ret_ps (v := (Value.slice none (0 : Nat) (0 : Nat))) [] [] Go.Proofs.Try.func44 (fun _ => by kernel_rfl) (by kernel_rfl) (by kernel_rfl) ?_
      exact ⟨by kernel_rfl, by kernel_rfl⟩)
  (focus
    refine Xg.spec_of Go.Proofs.Try.func19 rfl Go.Proofs.Try.ntmps19 fun g F => ?_)
  (focus
    refine Xg.at_seq ?_
    refine Xg.at_region ?_
    refine Xg.ops_op (by kernel_rfl) (Xg.opx_pure ((Value.slice none (0 : Nat) (0 : Nat))) rfl (fun _ => by kernel_rfl) ?_)
    refine Xg.ops_op (by kernel_rfl) (Xg.opx_pure ((iv 0)) rfl (fun _ => by kernel_rfl) ?_)
    refine Xg.ops_nil ?_
    refine Xg.at_seq ?_
    refine Xg.at_region ?_
    refine Xg.ops_op (by kernel_rfl) (Xg.opx_pure ((pv p 0)) rfl (fun _ => by kernel_rfl) ?_)
    refine Xg.ops_op (by kernel_rfl) (Xg.opx_pure ((iv 0)) rfl (fun _ => by kernel_rfl) ?_)
    refine Xg.ops_op (by kernel_rfl) (Xg.opx_pure ((iv 0)) rfl (fun _ => by kernel_rfl) ?_)
    refine Xg.ops_op (by kernel_rfl) (Xg.opx_pure ((iv at0)) rfl (fun _ => by kernel_rfl) ?_)
    refine Xg.ops_op (by kernel_rfl) (Xg.opx_pure ((iv k)) rfl (fun _ => by kernel_rfl) ?_)
    refine Xg.ops_op (by kernel_rfl) (Xg.opx_call1' [0, 1, 2, 3, 4] [H2 p ab ca cc ba bc, B2 ba bc ((0 : Int), xa, n, n) ((0 : Int), ya, n, n), A2 ab r, R2 r q u ta (2 : Nat) tc, I2 ta tc [(0 : Int), (1 : Int)]] (fun _ => by kernel_rfl) (@hs ) (by kernel_rfl) (by kernel_rfl) (by kernel_rfl) ?_)
    refine Xg.ops_op (by kernel_rfl) (Xg.opx_pure ((Value.tuple #[Value.slice none (0 : Nat) (0 : Nat), iv 98])) rfl (fun _ => by kernel_rfl) ?_)
    refine Xg.ops_op (by kernel_rfl) (Xg.opx_pure ((Value.slice none (0 : Nat) (0 : Nat))) rfl (fun _ => by kernel_rfl) ?_)
    refine Xg.ops_op (by kernel_rfl) (Xg.opx_pure ((iv 98)) rfl (fun _ => by kernel_rfl) ?_)
    refine Xg.ops_op (by kernel_rfl) (Xg.opx_pure ((Value.slice none (0 : Nat) (0 : Nat))) rfl (fun _ => by kernel_rfl) ?_)
    refine Xg.ops_op (by kernel_rfl) (Xg.opx_pure ((iv 98)) rfl (fun _ => by kernel_rfl) ?_)
    refine Xg.ops_nil ?_
    refine Xg.at_seq ?_
    refine Xg.at_region ?_
    refine Xg.ops_op (by kernel_rfl) (Xg.opx_pure ((Value.slice none (0 : Nat) (0 : Nat))) rfl (fun _ => by kernel_rfl) ?_)
    refine Xg.ops_op (by kernel_rfl) (Xg.opx_call1' [] [H2 p ab ca cc ba bc, B2 ba bc ((0 : Int), xa, n, n) ((0 : Int), ya, n, n), A2 ab r, R2 r q u ta (2 : Nat) tc, I2 ta tc [(0 : Int), (1 : Int)]] (fun _ => by kernel_rfl) (@hc ) (by kernel_rfl) (by kernel_rfl) (by kernel_rfl) ?_)
    refine Xg.ops_op (by kernel_rfl) (Xg.opx_pure ((iv 98)) rfl (fun _ => by kernel_rfl) ?_)
    refine Xg.ops_op (by kernel_rfl) (Xg.opx_pure ((Value.slice none (0 : Nat) (0 : Nat))) rfl (fun _ => by kernel_rfl) ?_)
    refine Xg.ops_op (by kernel_rfl) (Xg.opx_pure ((iv 98)) rfl (fun _ => by kernel_rfl) ?_)
    refine Xg.ops_nil ?_
    refine Xg.at_ret_ps (v := (Value.tuple #[Value.slice none (0 : Nat) (0 : Nat), iv 98])) [0, 1, 2, 3, 4] [H2 p ab ca cc ba bc, B2 ba bc ((0 : Int), xa, n, n) ((0 : Int), ya, n, n), A2 ab r, R2 r q u ta (2 : Nat) tc, I2 ta tc [(0 : Int), (1 : Int)]] Go.Proofs.Try.func19 (fun _ => by kernel_rfl) (by kernel_rfl) (by kernel_rfl) ?_
    exact ⟨by kernel_rfl, by kernel_rfl⟩)
end
end Go.Proofs.Ytmplimmcjdkhlaa
