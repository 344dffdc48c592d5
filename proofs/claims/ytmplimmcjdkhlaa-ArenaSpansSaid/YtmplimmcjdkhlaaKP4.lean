/- The arena package: Open, Close, over a Pool. -/
import Derived.Test.YtmplimmcjdkhlaaKP3
import Derived.Test.YtmplimmcjdkhlaaKS
namespace Go.Proofs.Ytmplimmcjdkhlaa
open Go.Sl Go.Xg
set_option linter.unusedVariables false
set_option linter.unusedSimpArgs false
set_option linter.unnecessarySimpa false
set_option maxHeartbeats 4000000
set_option maxRecDepth 100000


theorem open_neg (p n : Nat) (u : Nat → Option Nat) : Does Try.prog 16 [.pointer (some ⟨p, 0, none⟩), .int .i64 (-1)] [PoolP p n u] (Ret (.tuple #[.int .i64 0, .int .i64 92]) [PoolP p n u]) := by
  refine closed0 fun ab cv bv => ?_
  (focus
    refine Xg.spec_of Go.Proofs.Try.func16 rfl Go.Proofs.Try.ntmps16 fun g F => ?_)
  (focus
    refine Xg.at_seq ?_
    refine Xg.at_region ?_
    refine Xg.ops_op (by kernel_rfl) (Xg.opx_pure ((iv 0)) rfl (fun _ => by kernel_rfl) ?_)
    refine Xg.ops_op (by kernel_rfl) (Xg.opx_pure ((iv 0)) rfl (fun _ => by kernel_rfl) ?_)
    refine Xg.ops_nil ?_
    refine Xg.at_seq ?_
    refine Xg.at_seq ?_
    refine Xg.at_region ?_
    refine Xg.ops_op (by kernel_rfl) (Xg.opx_pure ((iv (-1))) rfl (fun _ => by kernel_rfl) ?_)
    refine Xg.ops_op (by kernel_rfl) (Xg.opx_pure ((Value.bool true)) rfl (fun _ => by kernel_rfl) ?_)
    refine Xg.ops_nil ?_
    refine Xg.at_true (t := true) (by kernel_rfl) rfl ?_
    refine Xg.at_seq ?_
    refine Xg.at_region ?_
    refine Xg.ops_op (by kernel_rfl) (Xg.opx_pure ((iv 0)) rfl (fun _ => by kernel_rfl) ?_)
    refine Xg.ops_op (by kernel_rfl) (Xg.opx_pure ((iv 92)) rfl (fun _ => by kernel_rfl) ?_)
    refine Xg.ops_nil ?_
    refine Xg.at_ret_ps (v := (Value.tuple #[iv 0, iv 92])) [0, 1] [HdP p ab n cv bv, PtP ab n u] Go.Proofs.Try.func16 (fun _ => by kernel_rfl) (by kernel_rfl) (by kernel_rfl) ?_
    exact ⟨by kernel_rfl, by kernel_rfl⟩)
theorem open_full (p n : Nat) (u : Nat → Option Nat) (hn : n ≤ 64) (hb : ∀ j, j < n → ∃ b, u j = some b) : Does Try.prog 16 [.pointer (some ⟨p, 0, none⟩), .int .i64 5] [PoolP p n u] (Ret (.tuple #[.int .i64 0, .int .i64 93]) [PoolP p n u]) := by
  refine closed0 fun ab cv bv => ?_
  have hx := index_none ab n u hn hb
  (focus
    refine Xg.spec_of Go.Proofs.Try.func16 rfl Go.Proofs.Try.ntmps16 fun g F => ?_)
  (focus
    refine Xg.at_seq ?_
    refine Xg.at_region ?_
    refine Xg.ops_op (by kernel_rfl) (Xg.opx_pure ((iv 0)) rfl (fun _ => by kernel_rfl) ?_)
    refine Xg.ops_op (by kernel_rfl) (Xg.opx_pure ((iv 0)) rfl (fun _ => by kernel_rfl) ?_)
    refine Xg.ops_nil ?_
    refine Xg.at_seq ?_
    refine Xg.at_seq ?_
    refine Xg.at_region ?_
    refine Xg.ops_op (by kernel_rfl) (Xg.opx_pure ((iv 5)) rfl (fun _ => by kernel_rfl) ?_)
    refine Xg.ops_op (by kernel_rfl) (Xg.opx_pure ((Value.bool false)) rfl (fun _ => by kernel_rfl) ?_)
    refine Xg.ops_nil ?_
    refine Xg.at_false (t := false) (by kernel_rfl) rfl ?_
    refine Xg.at_skip ?_
    refine Xg.at_seq ?_
    refine Xg.at_region ?_
    refine Xg.ops_op (by kernel_rfl) (Xg.opx_pure ((pv p 0)) rfl (fun _ => by kernel_rfl) ?_)
    refine Xg.ops_op (by kernel_rfl) (Xg.opx_pure ((pv p 0)) rfl (fun _ => by kernel_rfl) ?_)
    refine Xg.ops_op (by kernel_rfl) (Xg.opx_pure ((pv p 2)) rfl (fun _ => by kernel_rfl) ?_)
    refine Xg.ops_op (by kernel_rfl) (Xg.opx_load (b := p) (off := ((2 : Nat))) 0 (Value.slice (some (Addr.mk ab (0 : Nat) none)) n n) rfl (by kernel_rfl) (by kernel_rfl) (by kernel_rfl) ?_)
    refine Xg.ops_op (by kernel_rfl) (Xg.opx_call1' [1] [row ab (102 : TypeId) (pcs n u), HdP p ab n cv bv] (fun _ => by kernel_rfl) (@hx ) (by kernel_rfl) (by kernel_rfl) (by kernel_rfl) ?_)
    refine Xg.ops_op (by kernel_rfl) (Xg.opx_pure ((iv (-1))) rfl (fun _ => by kernel_rfl) ?_)
    refine Xg.ops_nil ?_
    refine Xg.at_seq ?_
    refine Xg.at_seq ?_
    refine Xg.at_region ?_
    refine Xg.ops_op (by kernel_rfl) (Xg.opx_pure ((iv (-1))) rfl (fun _ => by kernel_rfl) ?_)
    refine Xg.ops_op (by kernel_rfl) (Xg.opx_pure ((Value.bool true)) rfl (fun _ => by kernel_rfl) ?_)
    refine Xg.ops_nil ?_
    refine Xg.at_true (t := true) (by kernel_rfl) rfl ?_
    refine Xg.at_seq ?_
    refine Xg.at_region ?_
    refine Xg.ops_op (by kernel_rfl) (Xg.opx_pure ((iv 0)) rfl (fun _ => by kernel_rfl) ?_)
    refine Xg.ops_op (by kernel_rfl) (Xg.opx_pure ((iv 93)) rfl (fun _ => by kernel_rfl) ?_)
    refine Xg.ops_nil ?_
    refine Xg.at_ret_ps (v := (Value.tuple #[iv 0, iv 93])) [1, 0] [HdP p ab n cv bv, row ab (102 : TypeId) (pcs n u)] Go.Proofs.Try.func16 (fun _ => by kernel_rfl) (by kernel_rfl) (by kernel_rfl) ?_
    exact ⟨by kernel_rfl, by kernel_rfl⟩)
theorem open_ok (p n : Nat) (u : Nat → Option Nat) (i : Nat) (hn : n ≤ 64) (hi : i < n) (hno : u i = none) (hb : ∀ j, j < i → ∃ b, u j = some b) : Does Try.prog 16 [.pointer (some ⟨p, 0, none⟩), .int .i64 5] [PoolP p n u]
    (RetE (fun b : Nat => True) (fun _ => .tuple #[.int .i64 (i : Nat), .int .i64 0]) (fun b => [PoolP p n (upd u i (some b))])) := by
  refine closedN hi hno fun ab cv bv => ?_
  have hx := index_nil ab n u i hn hi hno hb
  (focus
    refine Xg.spec_of Go.Proofs.Try.func16 rfl Go.Proofs.Try.ntmps16 fun g F => ?_)
  (focus
    refine Xg.at_seq ?_
    refine Xg.at_region ?_
    refine Xg.ops_op (by kernel_rfl) (Xg.opx_pure ((iv 0)) rfl (fun _ => by kernel_rfl) ?_)
    refine Xg.ops_op (by kernel_rfl) (Xg.opx_pure ((iv 0)) rfl (fun _ => by kernel_rfl) ?_)
    refine Xg.ops_nil ?_
    refine Xg.at_seq ?_
    refine Xg.at_seq ?_
    refine Xg.at_region ?_
    refine Xg.ops_op (by kernel_rfl) (Xg.opx_pure ((iv 5)) rfl (fun _ => by kernel_rfl) ?_)
    refine Xg.ops_op (by kernel_rfl) (Xg.opx_pure ((Value.bool false)) rfl (fun _ => by kernel_rfl) ?_)
    refine Xg.ops_nil ?_
    refine Xg.at_false (t := false) (by kernel_rfl) rfl ?_
    refine Xg.at_skip ?_
    refine Xg.at_seq ?_
    refine Xg.at_region ?_
    refine Xg.ops_op (by kernel_rfl) (Xg.opx_pure ((pv p 0)) rfl (fun _ => by kernel_rfl) ?_)
    refine Xg.ops_op (by kernel_rfl) (Xg.opx_pure ((pv p 0)) rfl (fun _ => by kernel_rfl) ?_)
    refine Xg.ops_op (by kernel_rfl) (Xg.opx_pure ((pv p 2)) rfl (fun _ => by kernel_rfl) ?_)
    refine Xg.ops_op (by kernel_rfl) (Xg.opx_load (b := p) (off := ((2 : Nat))) 0 (Value.slice (some (Addr.mk ab (0 : Nat) none)) n n) rfl (by kernel_rfl) (by kernel_rfl) (by kernel_rfl) ?_)
    refine Xg.ops_op (by kernel_rfl) (Xg.opx_call1' [1] [row ab (102 : TypeId) (pcs n u), HdP p ab n cv bv] (fun _ => by kernel_rfl) (@hx ) (by kernel_rfl) (by kernel_rfl) (by kernel_rfl) ?_)
    refine Xg.ops_op (by kernel_rfl) (Xg.opx_pure ((iv (↑i : Int))) rfl (fun _ => by kernel_rfl) ?_)
    refine Xg.ops_nil ?_
    refine Xg.at_seq ?_
    refine Xg.at_seq ?_
    refine Xg.at_region ?_
    refine Xg.ops_op (by kernel_rfl) (Xg.opx_pure ((iv (↑i : Int))) rfl (fun _ => by kernel_rfl) ?_)
    refine Xg.ops_op (by kernel_rfl) (Xg.opx_pure (.bool (decide ((((↑i : Int)) : Int) < ((0 : Int))))) rfl (fun _ => by kernel_rfl) ?_)
    refine Xg.ops_nil ?_
    refine Xg.at_false (t := false) (by kernel_rfl) rfl ?_
    refine Xg.at_skip ?_
    refine Xg.at_seq ?_
    refine Xg.at_region ?_
    refine Xg.ops_op (by kernel_rfl) (Xg.opx_pure ((pv p 0)) rfl (fun _ => by kernel_rfl) ?_)
    refine Xg.ops_op (by kernel_rfl) (Xg.opx_pure ((pv p 0)) rfl (fun _ => by kernel_rfl) ?_)
    refine Xg.ops_op (by kernel_rfl) (Xg.opx_pure ((pv p 2)) rfl (fun _ => by kernel_rfl) ?_)
    refine Xg.ops_op (by kernel_rfl) (Xg.opx_load (b := p) (off := ((2 : Nat))) 1 (Value.slice (some (Addr.mk ab (0 : Nat) none)) n n) rfl (by kernel_rfl) (by kernel_rfl) (by kernel_rfl) ?_)
    refine Xg.ops_op (by kernel_rfl) (Xg.opx_pure ((iv (↑i : Int))) rfl (fun _ => by kernel_rfl) ?_)
    refine Xg.ops_op (by kernel_rfl) (Xg.opx_pure ((iv 5)) rfl (fun _ => by kernel_rfl) ?_)
    refine Xg.ops_op (by kernel_rfl) (Xg.opx_pure ((Value.agg #[iv 5, iv 0, Value.slice none (0 : Nat) (0 : Nat)])) rfl (fun _ => by kernel_rfl) ?_)
    refine Xg.ops_op (by kernel_rfl) (Xg.opx_box (v := (Value.agg #[iv 5, iv 0, Value.slice none (0 : Nat) (0 : Nat)])) [iv 5, iv 0, Value.slice none (0 : Nat) (0 : Nat)] (by kernel_rfl) (by kernel_rfl) fun xb1 => ?_)
    refine Xg.ops_op (by kernel_rfl) (Xg.opx_run (.pointer (some (Addr.mk ab i none))) rfl (Xg.run_ix_slice' (elem := 102) (b := ab) (off := ((0 : Nat))) (len := n) (cap := n) (kd := .i64) (e := ((↑i : Int))) 1 i i (by kernel_rfl) (by kernel_rfl) (by kernel_rfl) (by kernel_rfl) rfl (by omega) (by omega)) ?_)
    refine Xg.ops_op (by kernel_rfl) (Xg.opx_store_c (off := i) (cs' := (pcs n (upd u i (some xb1)))) 1 (pv xb1 0) (by kernel_rfl) rfl (by kernel_rfl) (by kernel_rfl) (by kernel_rfl) (@Go.Proofs.Ytmplimmcjdkhlaa.s_some (n) (u) (i) (xb1) (by omega)) ?_)
    refine Xg.ops_nil ?_
    refine Xg.at_seq ?_
    refine Xg.at_region ?_
    refine Xg.ops_op (by kernel_rfl) (Xg.opx_pure ((iv (↑i : Int))) rfl (fun _ => by kernel_rfl) ?_)
    refine Xg.ops_op (by kernel_rfl) (Xg.opx_pure ((iv (↑i : Int))) rfl (fun _ => by kernel_rfl) ?_)
    refine Xg.ops_op (by kernel_rfl) (Xg.opx_pure ((iv 0)) rfl (fun _ => by kernel_rfl) ?_)
    refine Xg.ops_nil ?_
    refine Xg.at_ret_ps (v := (Value.tuple #[iv (↑i : Int), iv 0])) [2, 1, 0] [HdP p ab n cv bv, row ab (102 : TypeId) (pcs n (upd u i (some xb1))), row xb1 (105 : Nat) [iv 5, iv 0, Value.slice none (0 : Nat) (0 : Nat)]] Go.Proofs.Try.func16 (fun _ => by kernel_rfl) (by kernel_rfl) (by kernel_rfl) ?_
    refine ⟨xb1, trivial, by kernel_rfl, by kernel_rfl⟩)
theorem of_none (p ab n k : Nat) (cv bv : Value) (u : Nat → Option Nat) (hk : k < n) (hn : n ≤ 64) (hu : u k = none) : Does Try.prog 36 [.pointer (some ⟨p, 0, none⟩), .int .i64 (k : Nat)] [HdP p ab n cv bv, PtP ab n u] (Ret (.pointer none) [HdP p ab n cv bv, PtP ab n u]) := by
  have hg := g_none n u k hk hu
  (focus
    refine Xg.spec_of Go.Proofs.Try.func36 rfl Go.Proofs.Try.ntmps36 fun g F => ?_)
  (focus
    refine Xg.at_seq ?_
    refine Xg.at_region ?_
    refine Xg.ops_op (by kernel_rfl) (Xg.opx_pure ((Value.pointer none)) rfl (fun _ => by kernel_rfl) ?_)
    refine Xg.ops_nil ?_
    refine Xg.at_seq ?_
    refine Xg.at_seq ?_
    refine Xg.at_region ?_
    refine Xg.ops_op (by kernel_rfl) (Xg.opx_pure ((iv (↑k : Int))) rfl (fun _ => by kernel_rfl) ?_)
    refine Xg.ops_op (by kernel_rfl) (Xg.opx_pure (.bool (decide ((((↑k : Int)) : Int) < ((0 : Int))))) rfl (fun _ => by kernel_rfl) ?_)
    refine Xg.ops_op (by kernel_rfl) (Xg.opx_pure ((Value.bool (decide ((↑k : Int) < (0 : Int))))) rfl (fun _ => by kernel_rfl) ?_)
    refine Xg.ops_op (by kernel_rfl) (Xg.opx_pure ((iv (↑k : Int))) rfl (fun _ => by kernel_rfl) ?_)
    refine Xg.ops_op (by kernel_rfl) (Xg.opx_pure ((pv p 0)) rfl (fun _ => by kernel_rfl) ?_)
    refine Xg.ops_op (by kernel_rfl) (Xg.opx_pure ((pv p 0)) rfl (fun _ => by kernel_rfl) ?_)
    refine Xg.ops_op (by kernel_rfl) (Xg.opx_pure ((pv p 2)) rfl (fun _ => by kernel_rfl) ?_)
    refine Xg.ops_op (by kernel_rfl) (Xg.opx_load (b := p) (off := ((2 : Nat))) 0 (Value.slice (some (Addr.mk ab (0 : Nat) none)) n n) rfl (by kernel_rfl) (by kernel_rfl) (by kernel_rfl) ?_)
    refine Xg.ops_op (by kernel_rfl) (Xg.opx_pure ((iv (↑n : Int))) rfl (fun _ => by kernel_rfl) ?_)
    refine Xg.ops_op (by kernel_rfl) (Xg.opx_pure (.bool (decide ((((↑k : Int)) : Int) ≥ ((↑n : Int))))) rfl (fun _ => by kernel_rfl) ?_)
    refine Xg.ops_flag (j := 7) (c := (decide ((↑k : Int) < (0 : Int)))) (by kernel_rfl) (fun xh1 => absurd (of_decide_eq_true xh1) (by omega)) (fun _ => ?_)
    refine Xg.ops_flag (j := 14) (c := (decide ((↑k : Int) ≥ (↑n : Int)))) (by kernel_rfl) (fun xh1 => absurd (of_decide_eq_true xh1) (by omega)) (fun _ => ?_)
    refine Xg.ops_op (by kernel_rfl) (Xg.opx_pure ((Value.bool false)) rfl (fun _ => by kernel_rfl) ?_)
    refine Xg.ops_nil ?_
    refine Xg.at_false (t := false) (by kernel_rfl) rfl ?_
    refine Xg.at_skip ?_
    refine Xg.at_seq ?_
    refine Xg.at_region ?_
    refine Xg.ops_op (by kernel_rfl) (Xg.opx_pure ((pv p 0)) rfl (fun _ => by kernel_rfl) ?_)
    refine Xg.ops_op (by kernel_rfl) (Xg.opx_pure ((pv p 0)) rfl (fun _ => by kernel_rfl) ?_)
    refine Xg.ops_op (by kernel_rfl) (Xg.opx_pure ((pv p 2)) rfl (fun _ => by kernel_rfl) ?_)
    refine Xg.ops_op (by kernel_rfl) (Xg.opx_load (b := p) (off := ((2 : Nat))) 0 (Value.slice (some (Addr.mk ab (0 : Nat) none)) n n) rfl (by kernel_rfl) (by kernel_rfl) (by kernel_rfl) ?_)
    refine Xg.ops_op (by kernel_rfl) (Xg.opx_pure ((iv (↑k : Int))) rfl (fun _ => by kernel_rfl) ?_)
    refine Xg.ops_op (by kernel_rfl) (Xg.opx_run (.pointer (some (Addr.mk ab k none))) rfl (Xg.run_ix_slice' (elem := 102) (b := ab) (off := ((0 : Nat))) (len := n) (cap := n) (kd := .i64) (e := ((↑k : Int))) 1 k k (by kernel_rfl) (by kernel_rfl) (by kernel_rfl) (by kernel_rfl) rfl (by omega) (by omega)) ?_)
    refine Xg.ops_op (by kernel_rfl) (Xg.opx_load (b := ab) (off := k) 1 (Value.pointer none) rfl (by kernel_rfl) (@hg ) (by kernel_rfl) ?_)
    refine Xg.ops_op (by kernel_rfl) (Xg.opx_pure ((Value.pointer none)) rfl (fun _ => by kernel_rfl) ?_)
    refine Xg.ops_nil ?_
    refine Xg.at_ret_ps (v := (Value.pointer none)) [0, 1] [HdP p ab n cv bv, PtP ab n u] Go.Proofs.Try.func36 (fun _ => by kernel_rfl) (by kernel_rfl) (by kernel_rfl) ?_
    exact ⟨by kernel_rfl, by kernel_rfl⟩)
theorem of_some (p ab n k b : Nat) (cv bv : Value) (u : Nat → Option Nat) (hk : k < n) (hn : n ≤ 64) (hu : u k = some b) : Does Try.prog 36 [.pointer (some ⟨p, 0, none⟩), .int .i64 (k : Nat)] [HdP p ab n cv bv, PtP ab n u] (Ret (.pointer (some ⟨b, 0, none⟩)) [HdP p ab n cv bv, PtP ab n u]) := by
  have hg := g_some n u k b hk hu
  (focus
    refine Xg.spec_of Go.Proofs.Try.func36 rfl Go.Proofs.Try.ntmps36 fun g F => ?_)
  (focus
    refine Xg.at_seq ?_
    refine Xg.at_region ?_
    refine Xg.ops_op (by kernel_rfl) (Xg.opx_pure ((Value.pointer none)) rfl (fun _ => by kernel_rfl) ?_)
    refine Xg.ops_nil ?_
    refine Xg.at_seq ?_
    refine Xg.at_seq ?_
    refine Xg.at_region ?_
    refine Xg.ops_op (by kernel_rfl) (Xg.opx_pure ((iv (↑k : Int))) rfl (fun _ => by kernel_rfl) ?_)
    refine Xg.ops_op (by kernel_rfl) (Xg.opx_pure (.bool (decide ((((↑k : Int)) : Int) < ((0 : Int))))) rfl (fun _ => by kernel_rfl) ?_)
    refine Xg.ops_op (by kernel_rfl) (Xg.opx_pure ((Value.bool (decide ((↑k : Int) < (0 : Int))))) rfl (fun _ => by kernel_rfl) ?_)
    refine Xg.ops_op (by kernel_rfl) (Xg.opx_pure ((iv (↑k : Int))) rfl (fun _ => by kernel_rfl) ?_)
    refine Xg.ops_op (by kernel_rfl) (Xg.opx_pure ((pv p 0)) rfl (fun _ => by kernel_rfl) ?_)
    refine Xg.ops_op (by kernel_rfl) (Xg.opx_pure ((pv p 0)) rfl (fun _ => by kernel_rfl) ?_)
    refine Xg.ops_op (by kernel_rfl) (Xg.opx_pure ((pv p 2)) rfl (fun _ => by kernel_rfl) ?_)
    refine Xg.ops_op (by kernel_rfl) (Xg.opx_load (b := p) (off := ((2 : Nat))) 0 (Value.slice (some (Addr.mk ab (0 : Nat) none)) n n) rfl (by kernel_rfl) (by kernel_rfl) (by kernel_rfl) ?_)
    refine Xg.ops_op (by kernel_rfl) (Xg.opx_pure ((iv (↑n : Int))) rfl (fun _ => by kernel_rfl) ?_)
    refine Xg.ops_op (by kernel_rfl) (Xg.opx_pure (.bool (decide ((((↑k : Int)) : Int) ≥ ((↑n : Int))))) rfl (fun _ => by kernel_rfl) ?_)
    refine Xg.ops_flag (j := 7) (c := (decide ((↑k : Int) < (0 : Int)))) (by kernel_rfl) (fun xh1 => absurd (of_decide_eq_true xh1) (by omega)) (fun _ => ?_)
    refine Xg.ops_flag (j := 14) (c := (decide ((↑k : Int) ≥ (↑n : Int)))) (by kernel_rfl) (fun xh1 => absurd (of_decide_eq_true xh1) (by omega)) (fun _ => ?_)
    refine Xg.ops_op (by kernel_rfl) (Xg.opx_pure ((Value.bool false)) rfl (fun _ => by kernel_rfl) ?_)
    refine Xg.ops_nil ?_
    refine Xg.at_false (t := false) (by kernel_rfl) rfl ?_
    refine Xg.at_skip ?_
    refine Xg.at_seq ?_
    refine Xg.at_region ?_
    refine Xg.ops_op (by kernel_rfl) (Xg.opx_pure ((pv p 0)) rfl (fun _ => by kernel_rfl) ?_)
    refine Xg.ops_op (by kernel_rfl) (Xg.opx_pure ((pv p 0)) rfl (fun _ => by kernel_rfl) ?_)
    refine Xg.ops_op (by kernel_rfl) (Xg.opx_pure ((pv p 2)) rfl (fun _ => by kernel_rfl) ?_)
    refine Xg.ops_op (by kernel_rfl) (Xg.opx_load (b := p) (off := ((2 : Nat))) 0 (Value.slice (some (Addr.mk ab (0 : Nat) none)) n n) rfl (by kernel_rfl) (by kernel_rfl) (by kernel_rfl) ?_)
    refine Xg.ops_op (by kernel_rfl) (Xg.opx_pure ((iv (↑k : Int))) rfl (fun _ => by kernel_rfl) ?_)
    refine Xg.ops_op (by kernel_rfl) (Xg.opx_run (.pointer (some (Addr.mk ab k none))) rfl (Xg.run_ix_slice' (elem := 102) (b := ab) (off := ((0 : Nat))) (len := n) (cap := n) (kd := .i64) (e := ((↑k : Int))) 1 k k (by kernel_rfl) (by kernel_rfl) (by kernel_rfl) (by kernel_rfl) rfl (by omega) (by omega)) ?_)
    refine Xg.ops_op (by kernel_rfl) (Xg.opx_load (b := ab) (off := k) 1 (pv b 0) rfl (by kernel_rfl) (@hg ) (by kernel_rfl) ?_)
    refine Xg.ops_op (by kernel_rfl) (Xg.opx_pure ((pv b 0)) rfl (fun _ => by kernel_rfl) ?_)
    refine Xg.ops_nil ?_
    refine Xg.at_ret_ps (v := (pv b 0)) [0, 1] [HdP p ab n cv bv, PtP ab n u] Go.Proofs.Try.func36 (fun _ => by kernel_rfl) (by kernel_rfl) (by kernel_rfl) ?_
    exact ⟨by kernel_rfl, by kernel_rfl⟩)
theorem close_none (p n k : Nat) (u : Nat → Option Nat) (hk : k < n) (hn : n ≤ 64) (hu : u k = none) : Does Try.prog 15 [.pointer (some ⟨p, 0, none⟩), .int .i64 (k : Nat)] [PoolP p n u] (Ret (.tuple #[.int .i64 0, .int .i64 94]) [PoolP p n u]) := by
  refine closed0 fun ab cv bv => ?_
  have ho := of_none p ab n k cv bv u hk hn hu
  (focus
    refine Xg.spec_of Go.Proofs.Try.func15 rfl Go.Proofs.Try.ntmps15 fun g F => ?_)
  (focus
    refine Xg.at_seq ?_
    refine Xg.at_region ?_
    refine Xg.ops_op (by kernel_rfl) (Xg.opx_pure ((iv 0)) rfl (fun _ => by kernel_rfl) ?_)
    refine Xg.ops_op (by kernel_rfl) (Xg.opx_pure ((iv 0)) rfl (fun _ => by kernel_rfl) ?_)
    refine Xg.ops_nil ?_
    refine Xg.at_seq ?_
    refine Xg.at_region ?_
    refine Xg.ops_op (by kernel_rfl) (Xg.opx_pure ((pv p 0)) rfl (fun _ => by kernel_rfl) ?_)
    refine Xg.ops_op (by kernel_rfl) (Xg.opx_pure ((iv (↑k : Int))) rfl (fun _ => by kernel_rfl) ?_)
    refine Xg.ops_op (by kernel_rfl) (Xg.opx_call1' [0, 1] [HdP p ab n cv bv, PtP ab n u] (fun _ => by kernel_rfl) (@ho ) (by kernel_rfl) (by kernel_rfl) (by kernel_rfl) ?_)
    refine Xg.ops_op (by kernel_rfl) (Xg.opx_pure ((Value.pointer none)) rfl (fun _ => by kernel_rfl) ?_)
    refine Xg.ops_nil ?_
    refine Xg.at_seq ?_
    refine Xg.at_seq ?_
    refine Xg.at_region ?_
    refine Xg.ops_op (by kernel_rfl) (Xg.opx_pure ((Value.pointer none)) rfl (fun _ => by kernel_rfl) ?_)
    refine Xg.ops_op (by kernel_rfl) (Xg.opx_pure ((Value.bool true)) rfl (fun _ => by kernel_rfl) ?_)
    refine Xg.ops_nil ?_
    refine Xg.at_true (t := true) (by kernel_rfl) rfl ?_
    refine Xg.at_seq ?_
    refine Xg.at_region ?_
    refine Xg.ops_op (by kernel_rfl) (Xg.opx_pure ((iv 0)) rfl (fun _ => by kernel_rfl) ?_)
    refine Xg.ops_op (by kernel_rfl) (Xg.opx_pure ((iv 94)) rfl (fun _ => by kernel_rfl) ?_)
    refine Xg.ops_nil ?_
    refine Xg.at_ret_ps (v := (Value.tuple #[iv 0, iv 94])) [0, 1] [HdP p ab n cv bv, PtP ab n u] Go.Proofs.Try.func15 (fun _ => by kernel_rfl) (by kernel_rfl) (by kernel_rfl) ?_
    exact ⟨by kernel_rfl, by kernel_rfl⟩)
theorem close_some (p n k b : Nat) (u : Nat → Option Nat) (hk : k < n) (hn : n ≤ 64) (hu : u k = some b) : Does Try.prog 15 [.pointer (some ⟨p, 0, none⟩), .int .i64 (k : Nat)] [PoolP p n u] (Ret (.tuple #[.int .i64 0, .int .i64 0]) [PoolP p n (upd u k none)]) := by
  refine closedX hk hu fun ab cv bv => ?_
  have ho := of_some p ab n k b cv bv u hk hn hu
  (focus
    refine Xg.spec_of Go.Proofs.Try.func15 rfl Go.Proofs.Try.ntmps15 fun g F => ?_)
  (focus
    refine Xg.at_seq ?_
    refine Xg.at_region ?_
    refine Xg.ops_op (by kernel_rfl) (Xg.opx_pure ((iv 0)) rfl (fun _ => by kernel_rfl) ?_)
    refine Xg.ops_op (by kernel_rfl) (Xg.opx_pure ((iv 0)) rfl (fun _ => by kernel_rfl) ?_)
    refine Xg.ops_nil ?_
    refine Xg.at_seq ?_
    refine Xg.at_region ?_
    refine Xg.ops_op (by kernel_rfl) (Xg.opx_pure ((pv p 0)) rfl (fun _ => by kernel_rfl) ?_)
    refine Xg.ops_op (by kernel_rfl) (Xg.opx_pure ((iv (↑k : Int))) rfl (fun _ => by kernel_rfl) ?_)
    refine Xg.ops_op (by kernel_rfl) (Xg.opx_call1' [0, 1] [HdP p ab n cv bv, PtP ab n u, AreP b] (fun _ => by kernel_rfl) (@ho ) (by kernel_rfl) (by kernel_rfl) (by kernel_rfl) ?_)
    refine Xg.ops_op (by kernel_rfl) (Xg.opx_pure ((pv b 0)) rfl (fun _ => by kernel_rfl) ?_)
    refine Xg.ops_nil ?_
    refine Xg.at_seq ?_
    refine Xg.at_seq ?_
    refine Xg.at_region ?_
    refine Xg.ops_op (by kernel_rfl) (Xg.opx_pure ((pv b 0)) rfl (fun _ => by kernel_rfl) ?_)
    refine Xg.ops_op (by kernel_rfl) (Xg.opx_pure ((Value.bool false)) rfl (fun _ => by kernel_rfl) ?_)
    refine Xg.ops_nil ?_
    refine Xg.at_false (t := false) (by kernel_rfl) rfl ?_
    refine Xg.at_skip ?_
    refine Xg.at_seq ?_
    refine Xg.at_seq ?_
    refine Xg.at_region ?_
    refine Xg.ops_op (by kernel_rfl) (Xg.opx_pure ((pv b 0)) rfl (fun _ => by kernel_rfl) ?_)
    refine Xg.ops_op (by kernel_rfl) (Xg.opx_pure ((pv b 0)) rfl (fun _ => by kernel_rfl) ?_)
    refine Xg.ops_op (by kernel_rfl) (Xg.opx_pure ((pv b 2)) rfl (fun _ => by kernel_rfl) ?_)
    refine Xg.ops_op (by kernel_rfl) (Xg.opx_load (b := b) (off := ((2 : Nat))) 2 (Value.slice none (0 : Nat) (0 : Nat)) rfl (by kernel_rfl) (by kernel_rfl) (by kernel_rfl) ?_)
    refine Xg.ops_op (by kernel_rfl) (Xg.opx_pure ((iv 0)) rfl (fun _ => by kernel_rfl) ?_)
    refine Xg.ops_op (by kernel_rfl) (Xg.opx_pure ((iv 0)) rfl (fun _ => by kernel_rfl) ?_)
    refine Xg.ops_nil ?_
    refine Xg.at_block ?_
    refine Xg.at_loop ?_
    refine Xg.at_seq ?_
    refine Xg.at_region ?_
    refine Xg.ops_op (by kernel_rfl) (Xg.opx_pure ((Value.bool false)) rfl (fun _ => by kernel_rfl) ?_)
    refine Xg.ops_nil ?_
    refine Xg.at_seq ?_
    refine Xg.at_false (t := false) (by kernel_rfl) rfl ?_
    refine Xg.at_exit rfl ?_
    refine Xg.at_seq ?_
    refine Xg.at_region ?_
    refine Xg.ops_op (by kernel_rfl) (Xg.opx_pure ((pv p 0)) rfl (fun _ => by kernel_rfl) ?_)
    refine Xg.ops_op (by kernel_rfl) (Xg.opx_pure ((pv p 0)) rfl (fun _ => by kernel_rfl) ?_)
    refine Xg.ops_op (by kernel_rfl) (Xg.opx_pure ((pv p 2)) rfl (fun _ => by kernel_rfl) ?_)
    refine Xg.ops_op (by kernel_rfl) (Xg.opx_load (b := p) (off := ((2 : Nat))) 0 (Value.slice (some (Addr.mk ab (0 : Nat) none)) n n) rfl (by kernel_rfl) (by kernel_rfl) (by kernel_rfl) ?_)
    refine Xg.ops_op (by kernel_rfl) (Xg.opx_pure ((iv (↑k : Int))) rfl (fun _ => by kernel_rfl) ?_)
    refine Xg.ops_op (by kernel_rfl) (Xg.opx_run (.pointer (some (Addr.mk ab k none))) rfl (Xg.run_ix_slice' (elem := 102) (b := ab) (off := ((0 : Nat))) (len := n) (cap := n) (kd := .i64) (e := ((↑k : Int))) 1 k k (by kernel_rfl) (by kernel_rfl) (by kernel_rfl) (by kernel_rfl) rfl (by omega) (by omega)) ?_)
    refine Xg.ops_op (by kernel_rfl) (Xg.opx_store_c (off := k) (cs' := (pcs n (upd u k none))) 1 (Value.pointer none) (by kernel_rfl) rfl (by kernel_rfl) (by kernel_rfl) (by kernel_rfl) (@Go.Proofs.Ytmplimmcjdkhlaa.s_none (n) (u) (k) (by omega)) ?_)
    refine Xg.ops_nil ?_
    refine Xg.at_seq ?_
    refine Xg.at_region ?_
    refine Xg.ops_op (by kernel_rfl) (Xg.opx_pure ((pv b 0)) rfl (fun _ => by kernel_rfl) ?_)
    refine Xg.ops_op (by kernel_rfl) (Xg.opx_pure ((pv b 0)) rfl (fun _ => by kernel_rfl) ?_)
    refine Xg.ops_op (by kernel_rfl) (Xg.opx_pure ((pv b 1)) rfl (fun _ => by kernel_rfl) ?_)
    refine Xg.ops_op (by kernel_rfl) (Xg.opx_load (b := b) (off := ((1 : Nat))) 2 (iv 0) rfl (by kernel_rfl) (by kernel_rfl) (by kernel_rfl) ?_)
    refine Xg.ops_op (by kernel_rfl) (Xg.opx_pure ((iv 0)) rfl (fun _ => by kernel_rfl) ?_)
    refine Xg.ops_op (by kernel_rfl) (Xg.opx_pure ((iv 0)) rfl (fun _ => by kernel_rfl) ?_)
    refine Xg.ops_nil ?_
    refine Xg.at_ret_ps (v := (Value.tuple #[iv 0, iv 0])) [0, 1] [HdP p ab n cv bv, row ab (102 : TypeId) (pcs n (upd u k none))] Go.Proofs.Try.func15 (fun _ => by kernel_rfl) (by kernel_rfl) (by kernel_rfl) ?_
    exact ⟨by kernel_rfl, by kernel_rfl⟩)
end Go.Proofs.Ytmplimmcjdkhlaa
