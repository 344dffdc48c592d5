/- The law PpuAsks: edges, counted. -/
import Derived.Test.YtkfclamiendamaaKV19
import Derived.Test.YtkfclamiendamaaKS
import Derived.Test.YtkfclamiendamaaKV21
namespace Go.Proofs.Ytkfclamiendamaa
open Go.Sl Go.Xg
set_option linter.unusedVariables false
set_option linter.unusedSimpArgs false
set_option maxHeartbeats 4000000
set_option maxRecDepth 100000

/-- Is the line on, at a line and its clock? -/
def letsB (s y line clock : Int) : Bool :=
  if band .i64 s 64 ≠ 0 ∧ line = y then true
  else if line ≥ 144 then decide (band .i64 s 16 ≠ 0)
  else if clock < 80 then decide (band .i64 s 32 ≠ 0)
  else if clock < 252 then false
  else decide (band .i64 s 8 ≠ 0)
def ltAt (s y : Int) (i : Nat) : Bool := letsB s y ((i / 114 : Nat) : Int) ((i % 114 * 4 : Nat) : Int)
def prevAt (s y : Int) : Nat → Bool
  | 0 => letsB s y 153 452
  | i + 1 => ltAt s y i
def riseN (s y : Int) (i : Nat) : Nat := if ltAt s y i = true ∧ prevAt s y i = false then 1 else 0
def edgeN (s y : Int) : Nat → Nat
  | 0 => 0
  | i + 1 => edgeN s y i + riseN s y i
def sumN (s y : Int) : Nat → Nat
  | 0 => 0
  | i + 1 => sumN s y i + riseN s y ((i + 1) % 17556)
theorem edge_succ (s y : Int) (i : Nat) : edgeN s y (i + 1) = edgeN s y i + riseN s y i := rfl
theorem sum_succ (s y : Int) (i : Nat) : sumN s y (i + 1) = sumN s y i + riseN s y ((i + 1) % 17556) := rfl
theorem sumN_at (s y : Int) (E m i : Nat) (hi : i < 17556) (h : sumN s y (17556 * m) = m * E) : sumN s y (17556 * m + i) + riseN s y 0 = m * E + edgeN s y (i + 1) := by
  induction i with
  | zero =>
    have := edge_succ s y 0
    have h0 : edgeN s y 0 = 0 := rfl
    rw [Nat.add_zero, h]
    omega
  | succ i ih =>
    have h1 := ih (by omega)
    have h2 := edge_succ s y (i + 1)
    have h3 := sum_succ s y (17556 * m + i)
    rw [show (17556 * m + i + 1) % 17556 = i + 1 from by omega] at h3
    have h4 : 17556 * m + (i + 1) = 17556 * m + i + 1 := rfl
    rw [h4]
    omega
theorem sumN_full (s y : Int) (E : Nat) (hE : E = edgeN s y 17556) (m : Nat) : sumN s y (17556 * m) = m * E := by
  induction m with
  | zero => rw [Nat.zero_mul]; rfl
  | succ m ih =>
    have h1 := sumN_at s y E m 17555 (by omega) ih
    have h2 := sum_succ s y (17556 * m + 17555)
    rw [show (17556 * m + 17555 + 1) % 17556 = 0 from by omega] at h2
    have h3 : 17556 * (m + 1) = 17556 * m + 17555 + 1 := by omega
    rw [h3, h2, show (m + 1) * E = m * E + E from Nat.succ_mul m E]
    rw [show edgeN s y (17555 + 1) = E from hE.symm] at h1
    exact h1
theorem edge_le (s y : Int) (i : Nat) : edgeN s y i ≤ i := by
  induction i with
  | zero => exact Nat.le_refl _
  | succ i ih => unfold edgeN riseN; split <;> omega
theorem sumN_le (s y : Int) (i : Nat) : sumN s y i ≤ i := by
  induction i with
  | zero => exact Nat.le_refl _
  | succ i ih => unfold sumN riseN; split <;> omega
theorem bool_ite {a : Bool} {b c : Bool} : (a && b || c) = (if a = true ∧ b = true then true else c) := by
  cases a <;> cases b <;> cases c <;> rfl
theorem line_at {s y : Int} {j : Nat} {σ : Pp} (h : Tm 145 s y j σ) : lineB σ = ltAt s y (j % 17556) := by
  have e1 : (((j % 17556) / 114 : Nat) : Int) = σ.regs 4 := by rw [h.at4.ly]; omega
  have e2 : (((j % 17556) % 114 * 4 : Nat) : Int) = σ.clock := by rw [h.at4.clk]; omega
  have hcl := h.at4.ok.wf.clock
  unfold ltAt letsB lineB
  rw [e1, e2, h.at4.on, h.r1, h.r5, Bool.true_and, bool_ite]
  unfold modeI
  rw [if_pos h.at4.on]
  simp only [decide_eq_true_eq]
  (repeat' split) <;> first | rfl | (exfalso; omega)
theorem prev_at (s y : Int) (j : Nat) : prevAt s y ((j + 1) % 17556) = ltAt s y (j % 17556) := by
  by_cases h : j % 17556 = 17555
  · rw [show (j + 1) % 17556 = 0 from by omega, h]; rfl
  · rw [show (j + 1) % 17556 = j % 17556 + 1 from by omega]; rfl
theorem ask_at {s y : Int} {j : Nat} {σ : Pp} (h : Tm 145 s y j σ) : tickA σ / 2 = (riseN s y ((j + 1) % 17556) : Nat) := by
  have h2 := tm_next h
  have e1 := line_at h
  have e2 := line_at h2
  rw [tick_on h.at4.on] at e2
  unfold tickA riseN
  rw [if_pos h.at4.on, prev_at, ← e1, ← e2]
  have hx : (if σ.clock = 452 ∧ σ.regs 4 = 143 then (1 : Int) else 0) = 0 ∨ (if σ.clock = 452 ∧ σ.regs 4 = 143 then (1 : Int) else 0) = 1 := by split <;> omega
  generalize (if σ.clock = 452 ∧ σ.regs 4 = 143 then (1 : Int) else 0) = q at hx ⊢
  by_cases c : lineB σ = false ∧ lineB (nextP σ) = true
  · rw [if_pos c, if_pos ⟨c.2, c.1⟩]; omega
  · rw [if_neg c, if_neg (fun hh => c ⟨hh.2, hh.1⟩)]; omega

theorem lets_d (s y line clock : Int) : Does Try.prog 61 [.int .i64 s, .int .i64 y, .int .i64 line, .int .i64 clock] [] (Ret (.bool (letsB s y line clock)) []) := by
  (focus
    refine Xg.spec_of Go.Proofs.Try.func61 rfl Go.Proofs.Try.ntmps61 fun g F => ?_)
  (focus
    refine Xg.at_seq ?_
    refine Xg.at_region ?_
    refine Xg.ops_op (by kernel_rfl) (Xg.opx_pure ((Value.bool false)) rfl (fun _ => by kernel_rfl) ?_)
    refine Xg.ops_nil ?_
    refine Xg.at_seq ?_
    refine Xg.at_seq ?_
    refine Xg.at_region ?_
    refine Xg.ops_op (by kernel_rfl) (Xg.opx_pure ((iv s)) rfl (fun _ => by kernel_rfl) ?_)
    refine Xg.ops_op (by kernel_rfl) (Xg.opx_pure (.int .i64 (Xg.band .i64 (s) (((64 : Int))))) rfl (fun _ => by kernel_rfl) ?_)
    refine Xg.ops_op (by kernel_rfl) (Xg.opx_pure (.bool (!decide (((band IntKind.i64 s (64 : Int)) : Int) = ((0 : Int))))) rfl (fun _ => by kernel_rfl) ?_)
    refine Xg.ops_op (by kernel_rfl) (Xg.opx_pure ((Value.bool !decide (band IntKind.i64 s (64 : Int) = (0 : Int)))) rfl (fun _ => by kernel_rfl) ?_)
    refine Xg.ops_flag (j := 12) (c := (!decide (band IntKind.i64 s (64 : Int) = (0 : Int)))) (by kernel_rfl) (fun xh1 => ?_) (fun xh1 => ?_)
    replace xh1 : ¬ ((band IntKind.i64 s (64 : Int) = (0 : Int))) := by simpa using xh1
    rotate_left
    replace xh1 : (band IntKind.i64 s (64 : Int) = (0 : Int)) := by simpa using xh1
    rotate_right
    refine Xg.ops_op (by kernel_rfl) (Xg.opx_pure ((iv line)) rfl (fun _ => by kernel_rfl) ?_)
    refine Xg.ops_op (by kernel_rfl) (Xg.opx_pure ((iv y)) rfl (fun _ => by kernel_rfl) ?_)
    refine Xg.ops_op (by kernel_rfl) (Xg.opx_pure (.bool (decide ((line : Int) = y))) rfl (fun _ => by kernel_rfl) ?_)
    refine Xg.ops_flag (j := 15) (c := (decide (line = y))) (by kernel_rfl) (fun xh2 => ?_) (fun xh2 => ?_)
    replace xh2 : (line = y) := of_decide_eq_true xh2
    rotate_left
    replace xh2 : ¬ ((line = y)) := of_decide_eq_false xh2
    rotate_right
    refine Xg.ops_op (by kernel_rfl) (Xg.opx_pure ((Value.bool true)) rfl (fun _ => by kernel_rfl) ?_)
    refine Xg.ops_nil ?_
    refine Xg.at_true (t := true) (by kernel_rfl) rfl ?_
    refine Xg.at_seq ?_
    refine Xg.at_region ?_
    refine Xg.ops_op (by kernel_rfl) (Xg.opx_pure ((Value.bool true)) rfl (fun _ => by kernel_rfl) ?_)
    refine Xg.ops_nil ?_
    refine Xg.at_ret_ps (v := (Value.bool true)) [] [] Go.Proofs.Try.func61 (fun _ => by kernel_rfl) (by kernel_rfl) (by kernel_rfl) ?_
    rotate_left
    refine Xg.ops_op (by kernel_rfl) (Xg.opx_pure ((Value.bool false)) rfl (fun _ => by kernel_rfl) ?_)
    refine Xg.ops_nil ?_
    refine Xg.at_false (t := false) (by kernel_rfl) rfl ?_
    refine Xg.at_skip ?_
    refine Xg.at_seq ?_
    refine Xg.at_block ?_
    refine Xg.at_seq ?_
    refine Xg.at_region ?_
    refine Xg.ops_op (by kernel_rfl) (Xg.opx_pure ((iv line)) rfl (fun _ => by kernel_rfl) ?_)
    refine Xg.ops_op (by kernel_rfl) (Xg.opx_pure (.bool (decide ((line : Int) ≥ ((144 : Int))))) rfl (fun _ => by kernel_rfl) ?_)
    refine Xg.ops_op (by kernel_rfl) (Xg.opx_pure ((Value.bool (decide (line ≥ (144 : Int))))) rfl (fun _ => by kernel_rfl) ?_)
    refine Xg.ops_nil ?_
    refine Xg.at_dec (p := (line ≥ (144 : Int))) (by kernel_rfl) (fun xh3 => ?_) (fun xh3 => ?_)
    refine Xg.at_seq ?_
    refine Xg.at_region ?_
    refine Xg.ops_op (by kernel_rfl) (Xg.opx_pure ((iv s)) rfl (fun _ => by kernel_rfl) ?_)
    refine Xg.ops_op (by kernel_rfl) (Xg.opx_pure (.int .i64 (Xg.band .i64 (s) (((16 : Int))))) rfl (fun _ => by kernel_rfl) ?_)
    refine Xg.ops_op (by kernel_rfl) (Xg.opx_pure (.bool (!decide (((band IntKind.i64 s (16 : Int)) : Int) = ((0 : Int))))) rfl (fun _ => by kernel_rfl) ?_)
    refine Xg.ops_op (by kernel_rfl) (Xg.opx_pure ((Value.bool !decide (band IntKind.i64 s (16 : Int) = (0 : Int)))) rfl (fun _ => by kernel_rfl) ?_)
    refine Xg.ops_nil ?_
    refine Xg.at_ret_ps (v := (Value.bool !decide (band IntKind.i64 s (16 : Int) = (0 : Int)))) [] [] Go.Proofs.Try.func61 (fun _ => by kernel_rfl) (by kernel_rfl) (by kernel_rfl) ?_
    rotate_left
    refine Xg.at_seq ?_
    refine Xg.at_region ?_
    refine Xg.ops_op (by kernel_rfl) (Xg.opx_pure ((iv clock)) rfl (fun _ => by kernel_rfl) ?_)
    refine Xg.ops_op (by kernel_rfl) (Xg.opx_pure (.bool (decide ((clock : Int) < ((80 : Int))))) rfl (fun _ => by kernel_rfl) ?_)
    refine Xg.ops_op (by kernel_rfl) (Xg.opx_pure ((Value.bool (decide (clock < (80 : Int))))) rfl (fun _ => by kernel_rfl) ?_)
    refine Xg.ops_nil ?_
    refine Xg.at_dec (p := (clock < (80 : Int))) (by kernel_rfl) (fun xh4 => ?_) (fun xh4 => ?_)
    refine Xg.at_seq ?_
    refine Xg.at_region ?_
    refine Xg.ops_op (by kernel_rfl) (Xg.opx_pure ((iv s)) rfl (fun _ => by kernel_rfl) ?_)
    refine Xg.ops_op (by kernel_rfl) (Xg.opx_pure (.int .i64 (Xg.band .i64 (s) (((32 : Int))))) rfl (fun _ => by kernel_rfl) ?_)
    refine Xg.ops_op (by kernel_rfl) (Xg.opx_pure (.bool (!decide (((band IntKind.i64 s (32 : Int)) : Int) = ((0 : Int))))) rfl (fun _ => by kernel_rfl) ?_)
    refine Xg.ops_op (by kernel_rfl) (Xg.opx_pure ((Value.bool !decide (band IntKind.i64 s (32 : Int) = (0 : Int)))) rfl (fun _ => by kernel_rfl) ?_)
    refine Xg.ops_nil ?_
    refine Xg.at_ret_ps (v := (Value.bool !decide (band IntKind.i64 s (32 : Int) = (0 : Int)))) [] [] Go.Proofs.Try.func61 (fun _ => by kernel_rfl) (by kernel_rfl) (by kernel_rfl) ?_
    rotate_left
    refine Xg.at_seq ?_
    refine Xg.at_region ?_
    refine Xg.ops_op (by kernel_rfl) (Xg.opx_pure ((iv clock)) rfl (fun _ => by kernel_rfl) ?_)
    refine Xg.ops_op (by kernel_rfl) (Xg.opx_pure (.bool (decide ((clock : Int) < ((252 : Int))))) rfl (fun _ => by kernel_rfl) ?_)
    refine Xg.ops_op (by kernel_rfl) (Xg.opx_pure ((Value.bool (decide (clock < (252 : Int))))) rfl (fun _ => by kernel_rfl) ?_)
    refine Xg.ops_nil ?_
    refine Xg.at_dec (p := (clock < (252 : Int))) (by kernel_rfl) (fun xh5 => ?_) (fun xh5 => ?_)
    refine Xg.at_seq ?_
    refine Xg.at_region ?_
    refine Xg.ops_op (by kernel_rfl) (Xg.opx_pure ((Value.bool false)) rfl (fun _ => by kernel_rfl) ?_)
    refine Xg.ops_nil ?_
    refine Xg.at_ret_ps (v := (Value.bool false)) [] [] Go.Proofs.Try.func61 (fun _ => by kernel_rfl) (by kernel_rfl) (by kernel_rfl) ?_
    rotate_left
    refine Xg.at_skip ?_
    refine Xg.at_inBlock ?_
    refine Xg.at_seq ?_
    refine Xg.at_region ?_
    refine Xg.ops_op (by kernel_rfl) (Xg.opx_pure ((iv s)) rfl (fun _ => by kernel_rfl) ?_)
    refine Xg.ops_op (by kernel_rfl) (Xg.opx_pure (.int .i64 (Xg.band .i64 (s) (((8 : Int))))) rfl (fun _ => by kernel_rfl) ?_)
    refine Xg.ops_op (by kernel_rfl) (Xg.opx_pure (.bool (!decide (((band IntKind.i64 s (8 : Int)) : Int) = ((0 : Int))))) rfl (fun _ => by kernel_rfl) ?_)
    refine Xg.ops_op (by kernel_rfl) (Xg.opx_pure ((Value.bool !decide (band IntKind.i64 s (8 : Int) = (0 : Int)))) rfl (fun _ => by kernel_rfl) ?_)
    refine Xg.ops_nil ?_
    refine Xg.at_ret_ps (v := (Value.bool !decide (band IntKind.i64 s (8 : Int) = (0 : Int)))) [] [] Go.Proofs.Try.func61 (fun _ => by kernel_rfl) (by kernel_rfl) (by kernel_rfl) ?_
    rotate_left
    refine Xg.ops_skip (by kernel_rfl) ?_
    refine Xg.ops_skip (by kernel_rfl) ?_
    refine Xg.ops_skip (by kernel_rfl) ?_
    refine Xg.ops_op (by kernel_rfl) (Xg.opx_pure ((Value.bool false)) rfl (fun _ => by kernel_rfl) ?_)
    refine Xg.ops_nil ?_
    refine Xg.at_false (t := false) (by kernel_rfl) rfl ?_
    refine Xg.at_skip ?_
    refine Xg.at_seq ?_
    refine Xg.at_block ?_
    refine Xg.at_seq ?_
    refine Xg.at_region ?_
    refine Xg.ops_op (by kernel_rfl) (Xg.opx_pure ((iv line)) rfl (fun _ => by kernel_rfl) ?_)
    refine Xg.ops_op (by kernel_rfl) (Xg.opx_pure (.bool (decide ((line : Int) ≥ ((144 : Int))))) rfl (fun _ => by kernel_rfl) ?_)
    refine Xg.ops_op (by kernel_rfl) (Xg.opx_pure ((Value.bool (decide (line ≥ (144 : Int))))) rfl (fun _ => by kernel_rfl) ?_)
    refine Xg.ops_nil ?_
    refine Xg.at_dec (p := (line ≥ (144 : Int))) (by kernel_rfl) (fun xh2 => ?_) (fun xh2 => ?_)
    refine Xg.at_seq ?_
    refine Xg.at_region ?_
    refine Xg.ops_op (by kernel_rfl) (Xg.opx_pure ((iv s)) rfl (fun _ => by kernel_rfl) ?_)
    refine Xg.ops_op (by kernel_rfl) (Xg.opx_pure (.int .i64 (Xg.band .i64 (s) (((16 : Int))))) rfl (fun _ => by kernel_rfl) ?_)
    refine Xg.ops_op (by kernel_rfl) (Xg.opx_pure (.bool (!decide (((band IntKind.i64 s (16 : Int)) : Int) = ((0 : Int))))) rfl (fun _ => by kernel_rfl) ?_)
    refine Xg.ops_op (by kernel_rfl) (Xg.opx_pure ((Value.bool !decide (band IntKind.i64 s (16 : Int) = (0 : Int)))) rfl (fun _ => by kernel_rfl) ?_)
    refine Xg.ops_nil ?_
    refine Xg.at_ret_ps (v := (Value.bool !decide (band IntKind.i64 s (16 : Int) = (0 : Int)))) [] [] Go.Proofs.Try.func61 (fun _ => by kernel_rfl) (by kernel_rfl) (by kernel_rfl) ?_
    rotate_left
    refine Xg.at_seq ?_
    refine Xg.at_region ?_
    refine Xg.ops_op (by kernel_rfl) (Xg.opx_pure ((iv clock)) rfl (fun _ => by kernel_rfl) ?_)
    refine Xg.ops_op (by kernel_rfl) (Xg.opx_pure (.bool (decide ((clock : Int) < ((80 : Int))))) rfl (fun _ => by kernel_rfl) ?_)
    refine Xg.ops_op (by kernel_rfl) (Xg.opx_pure ((Value.bool (decide (clock < (80 : Int))))) rfl (fun _ => by kernel_rfl) ?_)
    refine Xg.ops_nil ?_
    refine Xg.at_dec (p := (clock < (80 : Int))) (by kernel_rfl) (fun xh3 => ?_) (fun xh3 => ?_)
    refine Xg.at_seq ?_
    refine Xg.at_region ?_
    refine Xg.ops_op (by kernel_rfl) (Xg.opx_pure ((iv s)) rfl (fun _ => by kernel_rfl) ?_)
    refine Xg.ops_op (by kernel_rfl) (Xg.opx_pure (.int .i64 (Xg.band .i64 (s) (((32 : Int))))) rfl (fun _ => by kernel_rfl) ?_)
    refine Xg.ops_op (by kernel_rfl) (Xg.opx_pure (.bool (!decide (((band IntKind.i64 s (32 : Int)) : Int) = ((0 : Int))))) rfl (fun _ => by kernel_rfl) ?_)
    refine Xg.ops_op (by kernel_rfl) (Xg.opx_pure ((Value.bool !decide (band IntKind.i64 s (32 : Int) = (0 : Int)))) rfl (fun _ => by kernel_rfl) ?_)
    refine Xg.ops_nil ?_
    refine Xg.at_ret_ps (v := (Value.bool !decide (band IntKind.i64 s (32 : Int) = (0 : Int)))) [] [] Go.Proofs.Try.func61 (fun _ => by kernel_rfl) (by kernel_rfl) (by kernel_rfl) ?_
    rotate_left
    refine Xg.at_seq ?_
    refine Xg.at_region ?_
    refine Xg.ops_op (by kernel_rfl) (Xg.opx_pure ((iv clock)) rfl (fun _ => by kernel_rfl) ?_)
    refine Xg.ops_op (by kernel_rfl) (Xg.opx_pure (.bool (decide ((clock : Int) < ((252 : Int))))) rfl (fun _ => by kernel_rfl) ?_)
    refine Xg.ops_op (by kernel_rfl) (Xg.opx_pure ((Value.bool (decide (clock < (252 : Int))))) rfl (fun _ => by kernel_rfl) ?_)
    refine Xg.ops_nil ?_
    refine Xg.at_dec (p := (clock < (252 : Int))) (by kernel_rfl) (fun xh4 => ?_) (fun xh4 => ?_)
    refine Xg.at_seq ?_
    refine Xg.at_region ?_
    refine Xg.ops_op (by kernel_rfl) (Xg.opx_pure ((Value.bool false)) rfl (fun _ => by kernel_rfl) ?_)
    refine Xg.ops_nil ?_
    refine Xg.at_ret_ps (v := (Value.bool false)) [] [] Go.Proofs.Try.func61 (fun _ => by kernel_rfl) (by kernel_rfl) (by kernel_rfl) ?_
    rotate_left
    refine Xg.at_skip ?_
    refine Xg.at_inBlock ?_
    refine Xg.at_seq ?_
    refine Xg.at_region ?_
    refine Xg.ops_op (by kernel_rfl) (Xg.opx_pure ((iv s)) rfl (fun _ => by kernel_rfl) ?_)
    refine Xg.ops_op (by kernel_rfl) (Xg.opx_pure (.int .i64 (Xg.band .i64 (s) (((8 : Int))))) rfl (fun _ => by kernel_rfl) ?_)
    refine Xg.ops_op (by kernel_rfl) (Xg.opx_pure (.bool (!decide (((band IntKind.i64 s (8 : Int)) : Int) = ((0 : Int))))) rfl (fun _ => by kernel_rfl) ?_)
    refine Xg.ops_op (by kernel_rfl) (Xg.opx_pure ((Value.bool !decide (band IntKind.i64 s (8 : Int) = (0 : Int)))) rfl (fun _ => by kernel_rfl) ?_)
    refine Xg.ops_nil ?_
    refine Xg.at_ret_ps (v := (Value.bool !decide (band IntKind.i64 s (8 : Int) = (0 : Int)))) [] [] Go.Proofs.Try.func61 (fun _ => by kernel_rfl) (by kernel_rfl) (by kernel_rfl) ?_)
  all_goals exact ⟨by unfold letsB; simp [*], rfl⟩

set_option maxHeartbeats 0 in
theorem edges_d (s y : Int) : Does Try.prog 40 [.int .i64 s, .int .i64 y] [] (RetE (fun x : Nat => x = edgeN s y 17556 ∧ x ≤ 17556) (fun x => .int .i64 (x : Nat)) (fun _ => [])) := by
  have hle : ∀ i, edgeN s y i ≤ i := fun i => by
    induction i with
    | zero => exact Nat.le_refl _
    | succ i ih => unfold edgeN riseN; split <;> omega
  (focus
    refine Xg.spec_of Go.Proofs.Try.func40 rfl Go.Proofs.Try.ntmps40 fun g F => ?_)
  (focus
    refine Xg.at_seq ?_
    refine Xg.at_region ?_
    refine Xg.ops_op (by kernel_rfl) (Xg.opx_pure ((iv 0)) rfl (fun _ => by kernel_rfl) ?_)
    refine Xg.ops_nil ?_
    refine Xg.at_seq ?_
    refine Xg.at_region ?_
    refine Xg.ops_op (by kernel_rfl) (Xg.opx_pure ((iv s)) rfl (fun _ => by kernel_rfl) ?_)
    refine Xg.ops_op (by kernel_rfl) (Xg.opx_pure ((iv y)) rfl (fun _ => by kernel_rfl) ?_)
    refine Xg.ops_op (by kernel_rfl) (Xg.opx_call1' [] [] (fun _ => by kernel_rfl) (@Go.Proofs.Ytkfclamiendamaa.lets_d (s) (y) (((153 : Int))) (((452 : Int)))) (by kernel_rfl) (by kernel_rfl) (by kernel_rfl) ?_)
    refine Xg.ops_op (by kernel_rfl) (Xg.opx_pure ((Value.bool (letsB s y (153 : Int) (452 : Int)))) rfl (fun _ => by kernel_rfl) ?_)
    refine Xg.ops_nil ?_
    refine Xg.at_seq ?_
    refine Xg.at_region ?_
    refine Xg.ops_op (by kernel_rfl) (Xg.opx_pure ((iv 0)) rfl (fun _ => by kernel_rfl) ?_)
    refine Xg.ops_nil ?_
    refine Xg.at_seq ?_
    refine Xg.at_seq ?_
    refine Xg.at_region ?_
    refine Xg.ops_op (by kernel_rfl) (Xg.opx_pure ((iv 0)) rfl (fun _ => by kernel_rfl) ?_)
    refine Xg.ops_nil ?_
    refine Xg.at_block ?_)
  (focus
    refine Xg.at_rounds_inv (α := (Nat × Int × Bool) × (Nat → Value)) (fun x => ((fun x => x.1 ≤ 17556 ∧ x.2.1 = (edgeN s y x.1 : Nat) ∧ x.2.2 = prevAt s y x.1) : (Nat × Int × Bool) → Prop) x.1) (fun x => ((fun x => 17556 - x.1) : (Nat × Int × Bool) → Nat) x.1) (fun x => Xg.headT [iv s, iv y, tu, tu, iv 0, Value.bool (letsB s y (153 : Int) (452 : Int)), iv 0, iv 0, tu, iv s, iv y, Value.bool (letsB s y (153 : Int) (452 : Int)), tu, tu, tu, tu, tu, tu, tu, tu, tu, tu, tu, tu, tu, tu, tu, tu, tu, tu, tu, tu, tu] [8, 12, 13, 14, 15, 16, 17, 18, 19, 20, 21, 22, 23, 24, 25, 26, 27, 28, 29, 30, 31] (((fun x => [(5, .bool x.2.2), (6, .int .i64 x.2.1), (7, .int .i64 (x.1 : Nat))]) : (Nat × Int × Bool) → List (Nat × Go.Value)) x.1) x.2) (fun x => ((fun x => []) : (Nat × Int × Bool) → List Go.Sl.HP) x.1) (((0, (0 : Int), letsB s y 153 452)), fun j => ([iv s, iv y, tu, tu, iv 0, Value.bool (letsB s y (153 : Int) (452 : Int)), iv 0, iv 0, tu, iv s, iv y, Value.bool (letsB s y (153 : Int) (452 : Int)), tu, tu, tu, tu, tu, tu, tu, tu, tu, tu, tu, tu, tu, tu, tu, tu, tu, tu, tu, tu, tu] : List Value).getD j undef) (by kernel_rfl) (by kernel_rfl) ?_ ?_)
  · exact ⟨Nat.zero_le _, rfl, rfl⟩
  rintro ⟨⟨i, q, was⟩, J⟩ ⟨hi, hq, hw⟩ ih
  dsimp only at hi hq hw
  (focus
    refine Xg.At.same (T' := [iv s, iv y, tu, tu, iv 0, Value.bool was, iv q, iv (↑i : Int), J 8, iv s, iv y, Value.bool (letsB s y (153 : Int) (452 : Int)), J 12, J 13, J 14, J 15, J 16, J 17, J 18, J 19, J 20, J 21, J 22, J 23, J 24, J 25, J 26, J 27, J 28, J 29, J 30, J 31, tu]) (L' := []) (by kernel_rfl) rfl ?_)
  by_cases hlt : i < 17556
  · have hes := edge_succ s y i
    have hlei := hle i
    have hps : prevAt s y (i + 1) = ltAt s y i := rfl
    obtain ⟨is, his⟩ : ∃ b, ltAt s y i = b := ⟨_, rfl⟩
    have hr : riseN s y i = if is = true ∧ was = false then 1 else 0 := by unfold riseN; rw [his, hw]
    have hl : Does Try.prog 61 [.int .i64 s, .int .i64 y, .int .i64 ((i : Int) / 114), .int .i64 ((i : Int) % 114 * 4)] [] (Ret (.bool is) []) := by
      have := lets_d s y ((i / 114 : Nat) : Int) ((i % 114 * 4 : Nat) : Int)
      rw [show letsB s y ((i / 114 : Nat) : Int) ((i % 114 * 4 : Nat) : Int) = is from his] at this
      rwa [show ((i / 114 : Nat) : Int) = (i : Int) / 114 from by omega, show ((i % 114 * 4 : Nat) : Int) = (i : Int) % 114 * 4 from by omega] at this
    rw [his] at hps
    obtain ⟨e, he⟩ : ∃ e, edgeN s y i = e := ⟨_, rfl⟩
    obtain ⟨e2, he2⟩ : ∃ e, edgeN s y (i + 1) = e := ⟨_, rfl⟩
    rw [he] at hq hlei hes
    rw [he2] at hes
    clear hle
    cases is <;> cases was
    · rw [if_neg (by decide)] at hr
      (focus
        refine Xg.at_seq ?_
        refine Xg.at_seq ?_
        refine Xg.at_region ?_
        refine Xg.ops_op (by kernel_rfl) (Xg.opx_pure ((iv (↑i : Int))) rfl (fun _ => by kernel_rfl) ?_)
        refine Xg.ops_op (by kernel_rfl) (Xg.opx_pure (.bool (decide ((((↑i : Int)) : Int) < ((17556 : Int))))) rfl (fun _ => by kernel_rfl) ?_)
        refine Xg.ops_nil ?_
        refine Xg.at_true (t := decide (((↑i : Int) < (17556 : Int)))) (by kernel_rfl) (decide_eq_true (by omega)) ?_
        refine Xg.at_skip ?_
        refine Xg.at_seq ?_
        refine Xg.at_block ?_
        refine Xg.at_seq ?_
        refine Xg.at_region ?_
        refine Xg.ops_op (by kernel_rfl) (Xg.opx_pure ((iv s)) rfl (fun _ => by kernel_rfl) ?_)
        refine Xg.ops_op (by kernel_rfl) (Xg.opx_pure ((iv y)) rfl (fun _ => by kernel_rfl) ?_)
        refine Xg.ops_op (by kernel_rfl) (Xg.opx_pure ((iv (↑i : Int))) rfl (fun _ => by kernel_rfl) ?_)
        refine Xg.ops_op (by kernel_rfl) (Xg.opx_int .i64 (IntKind.wrap .i64 (Int.tdiv (((↑i : Int))) (((114 : Int))))) rfl (fun _ => by kernel_rfl) (Xg.wrap_i64_quo (by omega)) ?_)
        refine Xg.ops_op (by kernel_rfl) (Xg.opx_pure ((iv (↑i : Int))) rfl (fun _ => by kernel_rfl) ?_)
        refine Xg.ops_op (by kernel_rfl) (Xg.opx_int .i64 (Int.tmod (((↑i : Int))) (((114 : Int)))) rfl (fun _ => by kernel_rfl) (Xg.rem_mod _ _ (by omega)) ?_)
        refine Xg.ops_op (by kernel_rfl) (Xg.opx_int .i64 (IntKind.wrap .i64 (((↑i : Int) % (114 : Int) * (4 : Int)))) rfl (fun _ => by kernel_rfl) (Xg.wrap_i64_in (by omega)) ?_)
        refine Xg.ops_op (by kernel_rfl) (Xg.opx_call1' [] [] (fun _ => by kernel_rfl) (@hl ) (by kernel_rfl) (by kernel_rfl) (by kernel_rfl) ?_)
        refine Xg.ops_op (by kernel_rfl) (Xg.opx_pure ((Value.bool false)) rfl (fun _ => by kernel_rfl) ?_)
        refine Xg.ops_nil ?_
        refine Xg.at_seq ?_
        refine Xg.at_seq ?_
        refine Xg.at_region ?_
        refine Xg.ops_op (by kernel_rfl) (Xg.opx_pure ((Value.bool false)) rfl (fun _ => by kernel_rfl) ?_)
        refine Xg.ops_op (by kernel_rfl) (Xg.opx_pure ((Value.bool false)) rfl (fun _ => by kernel_rfl) ?_)
        refine Xg.ops_skip (by kernel_rfl) ?_
        refine Xg.ops_skip (by kernel_rfl) ?_
        refine Xg.ops_op (by kernel_rfl) (Xg.opx_pure ((Value.bool false)) rfl (fun _ => by kernel_rfl) ?_)
        refine Xg.ops_nil ?_
        refine Xg.at_false (t := false) (by kernel_rfl) rfl ?_
        refine Xg.at_skip ?_
        refine Xg.at_region ?_
        refine Xg.ops_op (by kernel_rfl) (Xg.opx_pure ((Value.bool false)) rfl (fun _ => by kernel_rfl) ?_)
        refine Xg.ops_op (by kernel_rfl) (Xg.opx_pure ((Value.bool false)) rfl (fun _ => by kernel_rfl) ?_)
        refine Xg.ops_nil ?_
        refine Xg.at_inBlock ?_
        refine Xg.at_region ?_
        refine Xg.ops_op (by kernel_rfl) (Xg.opx_pure ((iv (↑i : Int))) rfl (fun _ => by kernel_rfl) ?_)
        refine Xg.ops_op (by kernel_rfl) (Xg.opx_int .i64 (IntKind.wrap .i64 (((↑i : Int) + (1 : Int)))) rfl (fun _ => by kernel_rfl) (Xg.wrap_i64_in (by omega)) ?_)
        refine Xg.ops_op (by kernel_rfl) (Xg.opx_pure ((iv ((↑i : Int) + (1 : Int)))) rfl (fun _ => by kernel_rfl) ?_)
        refine Xg.ops_nil ?_
        refine Xg.at_inLoop ?_)
      (focus
        refine Xg.at_keep [] (by kernel_rfl) ?_
        refine Xg.At.same (by kernel_rfl) ?_ (ih (((i + 1, q, false)), fun j => ([iv s, iv y, tu, tu, iv 0, Value.bool false, iv q, iv ((↑i : Int) + (1 : Int)), Value.bool false, iv s, iv y, Value.bool (letsB s y (153 : Int) (452 : Int)), iv (↑i : Int), Value.bool (decide ((↑i : Int) < (17556 : Int))), iv (↑i : Int), iv ((↑i : Int) + (1 : Int)), iv s, iv y, iv (↑i : Int), iv ((↑i : Int) / (114 : Int)), iv (↑i : Int), iv ((↑i : Int) % (114 : Int)), iv ((↑i : Int) % (114 : Int) * (4 : Int)), Value.bool false, Value.bool false, Value.bool false, tu, tu, Value.bool false, J 29, J 30, Value.bool false, tu] : List Value).getD j undef) ?_ ?_))
      · rfl
      · exact ⟨by dsimp only; omega, by dsimp only; rw [he2]; omega, hps.symm⟩
      · dsimp only; omega
    · rw [if_neg (by decide)] at hr
      (focus
        refine Xg.at_seq ?_
        refine Xg.at_seq ?_
        refine Xg.at_region ?_
        refine Xg.ops_op (by kernel_rfl) (Xg.opx_pure ((iv (↑i : Int))) rfl (fun _ => by kernel_rfl) ?_)
        refine Xg.ops_op (by kernel_rfl) (Xg.opx_pure (.bool (decide ((((↑i : Int)) : Int) < ((17556 : Int))))) rfl (fun _ => by kernel_rfl) ?_)
        refine Xg.ops_nil ?_
        refine Xg.at_true (t := decide (((↑i : Int) < (17556 : Int)))) (by kernel_rfl) (decide_eq_true (by omega)) ?_
        refine Xg.at_skip ?_
        refine Xg.at_seq ?_
        refine Xg.at_block ?_
        refine Xg.at_seq ?_
        refine Xg.at_region ?_
        refine Xg.ops_op (by kernel_rfl) (Xg.opx_pure ((iv s)) rfl (fun _ => by kernel_rfl) ?_)
        refine Xg.ops_op (by kernel_rfl) (Xg.opx_pure ((iv y)) rfl (fun _ => by kernel_rfl) ?_)
        refine Xg.ops_op (by kernel_rfl) (Xg.opx_pure ((iv (↑i : Int))) rfl (fun _ => by kernel_rfl) ?_)
        refine Xg.ops_op (by kernel_rfl) (Xg.opx_int .i64 (IntKind.wrap .i64 (Int.tdiv (((↑i : Int))) (((114 : Int))))) rfl (fun _ => by kernel_rfl) (Xg.wrap_i64_quo (by omega)) ?_)
        refine Xg.ops_op (by kernel_rfl) (Xg.opx_pure ((iv (↑i : Int))) rfl (fun _ => by kernel_rfl) ?_)
        refine Xg.ops_op (by kernel_rfl) (Xg.opx_int .i64 (Int.tmod (((↑i : Int))) (((114 : Int)))) rfl (fun _ => by kernel_rfl) (Xg.rem_mod _ _ (by omega)) ?_)
        refine Xg.ops_op (by kernel_rfl) (Xg.opx_int .i64 (IntKind.wrap .i64 (((↑i : Int) % (114 : Int) * (4 : Int)))) rfl (fun _ => by kernel_rfl) (Xg.wrap_i64_in (by omega)) ?_)
        refine Xg.ops_op (by kernel_rfl) (Xg.opx_call1' [] [] (fun _ => by kernel_rfl) (@hl ) (by kernel_rfl) (by kernel_rfl) (by kernel_rfl) ?_)
        refine Xg.ops_op (by kernel_rfl) (Xg.opx_pure ((Value.bool false)) rfl (fun _ => by kernel_rfl) ?_)
        refine Xg.ops_nil ?_
        refine Xg.at_seq ?_
        refine Xg.at_seq ?_
        refine Xg.at_region ?_
        refine Xg.ops_op (by kernel_rfl) (Xg.opx_pure ((Value.bool false)) rfl (fun _ => by kernel_rfl) ?_)
        refine Xg.ops_op (by kernel_rfl) (Xg.opx_pure ((Value.bool false)) rfl (fun _ => by kernel_rfl) ?_)
        refine Xg.ops_skip (by kernel_rfl) ?_
        refine Xg.ops_skip (by kernel_rfl) ?_
        refine Xg.ops_op (by kernel_rfl) (Xg.opx_pure ((Value.bool false)) rfl (fun _ => by kernel_rfl) ?_)
        refine Xg.ops_nil ?_
        refine Xg.at_false (t := false) (by kernel_rfl) rfl ?_
        refine Xg.at_skip ?_
        refine Xg.at_region ?_
        refine Xg.ops_op (by kernel_rfl) (Xg.opx_pure ((Value.bool false)) rfl (fun _ => by kernel_rfl) ?_)
        refine Xg.ops_op (by kernel_rfl) (Xg.opx_pure ((Value.bool false)) rfl (fun _ => by kernel_rfl) ?_)
        refine Xg.ops_nil ?_
        refine Xg.at_inBlock ?_
        refine Xg.at_region ?_
        refine Xg.ops_op (by kernel_rfl) (Xg.opx_pure ((iv (↑i : Int))) rfl (fun _ => by kernel_rfl) ?_)
        refine Xg.ops_op (by kernel_rfl) (Xg.opx_int .i64 (IntKind.wrap .i64 (((↑i : Int) + (1 : Int)))) rfl (fun _ => by kernel_rfl) (Xg.wrap_i64_in (by omega)) ?_)
        refine Xg.ops_op (by kernel_rfl) (Xg.opx_pure ((iv ((↑i : Int) + (1 : Int)))) rfl (fun _ => by kernel_rfl) ?_)
        refine Xg.ops_nil ?_
        refine Xg.at_inLoop ?_)
      (focus
        refine Xg.at_keep [] (by kernel_rfl) ?_
        refine Xg.At.same (by kernel_rfl) ?_ (ih (((i + 1, q, false)), fun j => ([iv s, iv y, tu, tu, iv 0, Value.bool false, iv q, iv ((↑i : Int) + (1 : Int)), Value.bool false, iv s, iv y, Value.bool (letsB s y (153 : Int) (452 : Int)), iv (↑i : Int), Value.bool (decide ((↑i : Int) < (17556 : Int))), iv (↑i : Int), iv ((↑i : Int) + (1 : Int)), iv s, iv y, iv (↑i : Int), iv ((↑i : Int) / (114 : Int)), iv (↑i : Int), iv ((↑i : Int) % (114 : Int)), iv ((↑i : Int) % (114 : Int) * (4 : Int)), Value.bool false, Value.bool false, Value.bool false, tu, tu, Value.bool false, J 29, J 30, Value.bool false, tu] : List Value).getD j undef) ?_ ?_))
      · rfl
      · exact ⟨by dsimp only; omega, by dsimp only; rw [he2]; omega, hps.symm⟩
      · dsimp only; omega
    · rw [if_pos (by decide)] at hr
      (focus
        refine Xg.at_seq ?_
        refine Xg.at_seq ?_
        refine Xg.at_region ?_
        refine Xg.ops_op (by kernel_rfl) (Xg.opx_pure ((iv (↑i : Int))) rfl (fun _ => by kernel_rfl) ?_)
        refine Xg.ops_op (by kernel_rfl) (Xg.opx_pure (.bool (decide ((((↑i : Int)) : Int) < ((17556 : Int))))) rfl (fun _ => by kernel_rfl) ?_)
        refine Xg.ops_nil ?_
        refine Xg.at_true (t := decide (((↑i : Int) < (17556 : Int)))) (by kernel_rfl) (decide_eq_true (by omega)) ?_
        refine Xg.at_skip ?_
        refine Xg.at_seq ?_
        refine Xg.at_block ?_
        refine Xg.at_seq ?_
        refine Xg.at_region ?_
        refine Xg.ops_op (by kernel_rfl) (Xg.opx_pure ((iv s)) rfl (fun _ => by kernel_rfl) ?_)
        refine Xg.ops_op (by kernel_rfl) (Xg.opx_pure ((iv y)) rfl (fun _ => by kernel_rfl) ?_)
        refine Xg.ops_op (by kernel_rfl) (Xg.opx_pure ((iv (↑i : Int))) rfl (fun _ => by kernel_rfl) ?_)
        refine Xg.ops_op (by kernel_rfl) (Xg.opx_int .i64 (IntKind.wrap .i64 (Int.tdiv (((↑i : Int))) (((114 : Int))))) rfl (fun _ => by kernel_rfl) (Xg.wrap_i64_quo (by omega)) ?_)
        refine Xg.ops_op (by kernel_rfl) (Xg.opx_pure ((iv (↑i : Int))) rfl (fun _ => by kernel_rfl) ?_)
        refine Xg.ops_op (by kernel_rfl) (Xg.opx_int .i64 (Int.tmod (((↑i : Int))) (((114 : Int)))) rfl (fun _ => by kernel_rfl) (Xg.rem_mod _ _ (by omega)) ?_)
        refine Xg.ops_op (by kernel_rfl) (Xg.opx_int .i64 (IntKind.wrap .i64 (((↑i : Int) % (114 : Int) * (4 : Int)))) rfl (fun _ => by kernel_rfl) (Xg.wrap_i64_in (by omega)) ?_)
        refine Xg.ops_op (by kernel_rfl) (Xg.opx_call1' [] [] (fun _ => by kernel_rfl) (@hl ) (by kernel_rfl) (by kernel_rfl) (by kernel_rfl) ?_)
        refine Xg.ops_op (by kernel_rfl) (Xg.opx_pure ((Value.bool true)) rfl (fun _ => by kernel_rfl) ?_)
        refine Xg.ops_nil ?_
        refine Xg.at_seq ?_
        refine Xg.at_seq ?_
        refine Xg.at_region ?_
        refine Xg.ops_op (by kernel_rfl) (Xg.opx_pure ((Value.bool true)) rfl (fun _ => by kernel_rfl) ?_)
        refine Xg.ops_op (by kernel_rfl) (Xg.opx_pure ((Value.bool true)) rfl (fun _ => by kernel_rfl) ?_)
        refine Xg.ops_op (by kernel_rfl) (Xg.opx_pure ((Value.bool false)) rfl (fun _ => by kernel_rfl) ?_)
        refine Xg.ops_op (by kernel_rfl) (Xg.opx_pure (.bool true) rfl (fun _ => by kernel_rfl) ?_)
        refine Xg.ops_op (by kernel_rfl) (Xg.opx_pure ((Value.bool true)) rfl (fun _ => by kernel_rfl) ?_)
        refine Xg.ops_nil ?_
        refine Xg.at_true (t := true) (by kernel_rfl) rfl ?_
        refine Xg.at_region ?_
        refine Xg.ops_op (by kernel_rfl) (Xg.opx_pure ((iv q)) rfl (fun _ => by kernel_rfl) ?_)
        refine Xg.ops_op (by kernel_rfl) (Xg.opx_int .i64 (IntKind.wrap .i64 ((q + (1 : Int)))) rfl (fun _ => by kernel_rfl) (Xg.wrap_i64_in (by omega)) ?_)
        refine Xg.ops_op (by kernel_rfl) (Xg.opx_pure ((iv (q + (1 : Int)))) rfl (fun _ => by kernel_rfl) ?_)
        refine Xg.ops_nil ?_
        refine Xg.at_region ?_
        refine Xg.ops_op (by kernel_rfl) (Xg.opx_pure ((Value.bool true)) rfl (fun _ => by kernel_rfl) ?_)
        refine Xg.ops_op (by kernel_rfl) (Xg.opx_pure ((Value.bool true)) rfl (fun _ => by kernel_rfl) ?_)
        refine Xg.ops_nil ?_
        refine Xg.at_inBlock ?_
        refine Xg.at_region ?_
        refine Xg.ops_op (by kernel_rfl) (Xg.opx_pure ((iv (↑i : Int))) rfl (fun _ => by kernel_rfl) ?_)
        refine Xg.ops_op (by kernel_rfl) (Xg.opx_int .i64 (IntKind.wrap .i64 (((↑i : Int) + (1 : Int)))) rfl (fun _ => by kernel_rfl) (Xg.wrap_i64_in (by omega)) ?_)
        refine Xg.ops_op (by kernel_rfl) (Xg.opx_pure ((iv ((↑i : Int) + (1 : Int)))) rfl (fun _ => by kernel_rfl) ?_)
        refine Xg.ops_nil ?_
        refine Xg.at_inLoop ?_)
      (focus
        refine Xg.at_keep [] (by kernel_rfl) ?_
        refine Xg.At.same (by kernel_rfl) ?_ (ih (((i + 1, q + 1, true)), fun j => ([iv s, iv y, tu, tu, iv 0, Value.bool true, iv (q + (1 : Int)), iv ((↑i : Int) + (1 : Int)), Value.bool true, iv s, iv y, Value.bool (letsB s y (153 : Int) (452 : Int)), iv (↑i : Int), Value.bool (decide ((↑i : Int) < (17556 : Int))), iv (↑i : Int), iv ((↑i : Int) + (1 : Int)), iv s, iv y, iv (↑i : Int), iv ((↑i : Int) / (114 : Int)), iv (↑i : Int), iv ((↑i : Int) % (114 : Int)), iv ((↑i : Int) % (114 : Int) * (4 : Int)), Value.bool true, Value.bool true, Value.bool true, Value.bool false, Value.bool true, Value.bool true, iv q, iv (q + (1 : Int)), Value.bool true, tu] : List Value).getD j undef) ?_ ?_))
      · rfl
      · exact ⟨by dsimp only; omega, by dsimp only; rw [he2]; omega, hps.symm⟩
      · dsimp only; omega
    · rw [if_neg (by decide)] at hr
      (focus
        refine Xg.at_seq ?_
        refine Xg.at_seq ?_
        refine Xg.at_region ?_
        refine Xg.ops_op (by kernel_rfl) (Xg.opx_pure ((iv (↑i : Int))) rfl (fun _ => by kernel_rfl) ?_)
        refine Xg.ops_op (by kernel_rfl) (Xg.opx_pure (.bool (decide ((((↑i : Int)) : Int) < ((17556 : Int))))) rfl (fun _ => by kernel_rfl) ?_)
        refine Xg.ops_nil ?_
        refine Xg.at_true (t := decide (((↑i : Int) < (17556 : Int)))) (by kernel_rfl) (decide_eq_true (by omega)) ?_
        refine Xg.at_skip ?_
        refine Xg.at_seq ?_
        refine Xg.at_block ?_
        refine Xg.at_seq ?_
        refine Xg.at_region ?_
        refine Xg.ops_op (by kernel_rfl) (Xg.opx_pure ((iv s)) rfl (fun _ => by kernel_rfl) ?_)
        refine Xg.ops_op (by kernel_rfl) (Xg.opx_pure ((iv y)) rfl (fun _ => by kernel_rfl) ?_)
        refine Xg.ops_op (by kernel_rfl) (Xg.opx_pure ((iv (↑i : Int))) rfl (fun _ => by kernel_rfl) ?_)
        refine Xg.ops_op (by kernel_rfl) (Xg.opx_int .i64 (IntKind.wrap .i64 (Int.tdiv (((↑i : Int))) (((114 : Int))))) rfl (fun _ => by kernel_rfl) (Xg.wrap_i64_quo (by omega)) ?_)
        refine Xg.ops_op (by kernel_rfl) (Xg.opx_pure ((iv (↑i : Int))) rfl (fun _ => by kernel_rfl) ?_)
        refine Xg.ops_op (by kernel_rfl) (Xg.opx_int .i64 (Int.tmod (((↑i : Int))) (((114 : Int)))) rfl (fun _ => by kernel_rfl) (Xg.rem_mod _ _ (by omega)) ?_)
        refine Xg.ops_op (by kernel_rfl) (Xg.opx_int .i64 (IntKind.wrap .i64 (((↑i : Int) % (114 : Int) * (4 : Int)))) rfl (fun _ => by kernel_rfl) (Xg.wrap_i64_in (by omega)) ?_)
        refine Xg.ops_op (by kernel_rfl) (Xg.opx_call1' [] [] (fun _ => by kernel_rfl) (@hl ) (by kernel_rfl) (by kernel_rfl) (by kernel_rfl) ?_)
        refine Xg.ops_op (by kernel_rfl) (Xg.opx_pure ((Value.bool true)) rfl (fun _ => by kernel_rfl) ?_)
        refine Xg.ops_nil ?_
        refine Xg.at_seq ?_
        refine Xg.at_seq ?_
        refine Xg.at_region ?_
        refine Xg.ops_op (by kernel_rfl) (Xg.opx_pure ((Value.bool true)) rfl (fun _ => by kernel_rfl) ?_)
        refine Xg.ops_op (by kernel_rfl) (Xg.opx_pure ((Value.bool true)) rfl (fun _ => by kernel_rfl) ?_)
        refine Xg.ops_op (by kernel_rfl) (Xg.opx_pure ((Value.bool true)) rfl (fun _ => by kernel_rfl) ?_)
        refine Xg.ops_op (by kernel_rfl) (Xg.opx_pure (.bool false) rfl (fun _ => by kernel_rfl) ?_)
        refine Xg.ops_op (by kernel_rfl) (Xg.opx_pure ((Value.bool false)) rfl (fun _ => by kernel_rfl) ?_)
        refine Xg.ops_nil ?_
        refine Xg.at_false (t := false) (by kernel_rfl) rfl ?_
        refine Xg.at_skip ?_
        refine Xg.at_region ?_
        refine Xg.ops_op (by kernel_rfl) (Xg.opx_pure ((Value.bool true)) rfl (fun _ => by kernel_rfl) ?_)
        refine Xg.ops_op (by kernel_rfl) (Xg.opx_pure ((Value.bool true)) rfl (fun _ => by kernel_rfl) ?_)
        refine Xg.ops_nil ?_
        refine Xg.at_inBlock ?_
        refine Xg.at_region ?_
        refine Xg.ops_op (by kernel_rfl) (Xg.opx_pure ((iv (↑i : Int))) rfl (fun _ => by kernel_rfl) ?_)
        refine Xg.ops_op (by kernel_rfl) (Xg.opx_int .i64 (IntKind.wrap .i64 (((↑i : Int) + (1 : Int)))) rfl (fun _ => by kernel_rfl) (Xg.wrap_i64_in (by omega)) ?_)
        refine Xg.ops_op (by kernel_rfl) (Xg.opx_pure ((iv ((↑i : Int) + (1 : Int)))) rfl (fun _ => by kernel_rfl) ?_)
        refine Xg.ops_nil ?_
        refine Xg.at_inLoop ?_)
      (focus
        refine Xg.at_keep [] (by kernel_rfl) ?_
        refine Xg.At.same (by kernel_rfl) ?_ (ih (((i + 1, q, true)), fun j => ([iv s, iv y, tu, tu, iv 0, Value.bool true, iv q, iv ((↑i : Int) + (1 : Int)), Value.bool true, iv s, iv y, Value.bool (letsB s y (153 : Int) (452 : Int)), iv (↑i : Int), Value.bool (decide ((↑i : Int) < (17556 : Int))), iv (↑i : Int), iv ((↑i : Int) + (1 : Int)), iv s, iv y, iv (↑i : Int), iv ((↑i : Int) / (114 : Int)), iv (↑i : Int), iv ((↑i : Int) % (114 : Int)), iv ((↑i : Int) % (114 : Int) * (4 : Int)), Value.bool true, Value.bool true, Value.bool true, Value.bool true, Value.bool false, Value.bool false, J 29, J 30, Value.bool true, tu] : List Value).getD j undef) ?_ ?_))
      · rfl
      · exact ⟨by dsimp only; omega, by dsimp only; rw [he2]; omega, hps.symm⟩
      · dsimp only; omega
  · clear ih
    have hin : i = 17556 := by omega
    subst hin
    have hl0 := hle 17556
    obtain ⟨E, hE⟩ : ∃ e, edgeN s y 17556 = e := ⟨_, rfl⟩
    rw [hE] at hq hl0
    rw [hE]
    subst hq
    (focus
      refine Xg.at_seq ?_
      refine Xg.at_seq ?_
      refine Xg.at_region ?_
      refine Xg.ops_op (by kernel_rfl) (Xg.opx_pure ((iv 17556)) rfl (fun _ => by kernel_rfl) ?_)
      refine Xg.ops_op (by kernel_rfl) (Xg.opx_pure ((Value.bool false)) rfl (fun _ => by kernel_rfl) ?_)
      refine Xg.ops_nil ?_
      refine Xg.at_false (t := false) (by kernel_rfl) rfl ?_
      refine Xg.at_exit rfl ?_
      refine Xg.at_seq ?_
      refine Xg.at_region ?_
      refine Xg.ops_op (by kernel_rfl) (Xg.opx_pure ((iv (↑E : Int))) rfl (fun _ => by kernel_rfl) ?_)
      refine Xg.ops_op (by kernel_rfl) (Xg.opx_pure ((iv (↑E : Int))) rfl (fun _ => by kernel_rfl) ?_)
      refine Xg.ops_nil ?_
      refine Xg.at_ret_ps (v := (iv (↑E : Int))) [] [] Go.Proofs.Try.func40 (fun _ => by kernel_rfl) (by kernel_rfl) (by kernel_rfl) ?_
      refine ⟨E, ?_, by kernel_rfl, by kernel_rfl⟩)
    exact ⟨rfl, hl0⟩

theorem stat_k (s : Int) (hs : 0 ≤ s ∧ s < 16) (m : Int) (hm : 0 ≤ m ∧ m ≤ 3) (b : Bool) : band .i64 (if b = true then bor .i64 (bor .i64 (s * 8) (bor .i64 128 m)) 4 else bor .i64 (s * 8) (bor .i64 128 m)) 120 = s * 8 := by
  have key : ∀ (k : Fin 16) (m : Fin 4) (b : Bool), band .i64 (if b = true then bor .i64 (bor .i64 (((k.val : Nat) : Int) * 8) (bor .i64 128 ((m.val : Nat) : Int))) 4 else bor .i64 (((k.val : Nat) : Int) * 8) (bor .i64 128 ((m.val : Nat) : Int))) 120 = ((k.val : Nat) : Int) * 8 := by decide +kernel
  obtain ⟨k, rfl⟩ := nat_of hs.1
  obtain ⟨n, rfl⟩ := nat_of hm.1
  exact key ⟨k, by omega⟩ ⟨n, by omega⟩ b
theorem set_k (s : Int) (hs : 0 ≤ s ∧ s < 16) : band .i64 (s * 8) 120 = s * 8 := by
  have key : ∀ (k : Fin 16), band .i64 (((k.val : Nat) : Int) * 8) 120 = ((k.val : Nat) : Int) * 8 := by decide +kernel
  obtain ⟨k, rfl⟩ := nat_of hs.1
  exact key ⟨k, by omega⟩
theorem stat_at {s y : Int} {j : Nat} {σ : Pp} (hs : 0 ≤ s ∧ s < 16) (h : Tm 145 (s * 8) y j σ) : band .i64 (readI σ 65345) 120 = s * 8 := by
  have := stat_k s hs (modeI σ) (modeI_bd σ) (decide (σ.regs 4 = y))
  unfold readI
  rw [if_neg (by omega), if_neg (by omega), if_neg (by omega), if_pos rfl, h.r1, h.r5]
  simp only [decide_eq_true_eq] at this
  exact this
theorem tm_asks (s y : Int) (hs : 0 ≤ s ∧ s < 16) (hy : 0 ≤ y ∧ y ≤ 255) : Tm 145 (s * 8) y 0 (writeP (writeP newP 65349 y) 65345 (s * 8)) := by
  have h := tm_new y hy
  obtain ⟨τ, hτ⟩ : ∃ τ, writeP newP 65349 y = τ := ⟨_, rfl⟩
  rw [hτ] at h ⊢
  have e : writeP τ 65345 (s * 8) = { τ with regs := upd τ.regs 1 (s * 8) } := by
    unfold writeP setP
    rw [if_neg (by omega), if_neg (by omega), if_neg (by omega), if_neg (by omega), if_pos (by omega), show s * 8 % 256 = s * 8 from by omega, set_k s hs]
  have ok := ok_write h.at4.ok 65345 (s * 8)
  rw [e] at ok ⊢
  refine ⟨⟨ok, ?_, ?_, ?_⟩, ?_, ?_, ?_⟩
  · show hasB (upd τ.regs 1 (s * 8) 0) 7 = true; rw [upd_ne (by omega)]; exact h.at4.on
  · show upd τ.regs 1 (s * 8) 4 = _; rw [upd_ne (by omega)]; exact h.at4.ly
  · exact h.at4.clk
  · show upd τ.regs 1 (s * 8) 0 = _; rw [upd_ne (by omega)]; exact h.r0
  · show upd τ.regs 1 (s * 8) 1 = s * 8; exact upd_same _ _ _
  · show upd τ.regs 1 (s * 8) 5 = _; rw [upd_ne (by omega)]; exact h.r5

set_option maxHeartbeats 0 in
theorem pasks_d (A : HP) (st : Int) (hst : i64ok st) (lyc : Int) (hly : i64ok lyc) (fr : Int) (hfr : i64ok fr) : Does Try.prog 13 [.int .i64 st, .int .i64 lyc, .int .i64 fr] [A] (Ret (.bool true) [A]) := by
  (focus
    refine Xg.spec_of Go.Proofs.Try.func13 rfl Go.Proofs.Try.ntmps13 fun g F => ?_)
  (focus
    refine Xg.at_seq ?_
    refine Xg.at_region ?_
    refine Xg.ops_op (by kernel_rfl) (Xg.opx_pure ((Value.bool false)) rfl (fun _ => by kernel_rfl) ?_)
    refine Xg.ops_nil ?_
    refine Xg.at_seq ?_
    refine Xg.at_region ?_
    refine Xg.ops_op (by kernel_rfl) (Xg.opx_callE' [] (fun xx1 => [PpR xx1.fst xx1.snd, A]) (fun _ => by kernel_rfl) (@Go.Proofs.Ytkfclamiendamaa.new_k ) (by kernel_rfl) (by kernel_rfl) (by kernel_rfl) fun xx1 xh1 => ?_)
    try dsimp only at xh1
    obtain ⟨xh1_0, xh1_1⟩ := xh1
    refine Xg.ops_op (by kernel_rfl) (Xg.opx_pure ((pv xx1.fst 0)) rfl (fun _ => by kernel_rfl) ?_)
    refine Xg.ops_nil ?_
    refine Xg.at_seq ?_
    refine Xg.at_seq ?_
    refine Xg.at_region ?_
    refine Xg.ops_op (by kernel_rfl) (Xg.opx_pure ((pv xx1.fst 0)) rfl (fun _ => by kernel_rfl) ?_)
    refine Xg.ops_op (by kernel_rfl) (Xg.opx_pure ((Value.bool false)) rfl (fun _ => by kernel_rfl) ?_)
    refine Xg.ops_nil ?_
    refine Xg.at_false (t := false) (by kernel_rfl) rfl ?_
    refine Xg.at_skip ?_
    refine Xg.at_seq ?_
    refine Xg.at_region ?_
    refine Xg.ops_op (by kernel_rfl) (Xg.opx_pure ((iv st)) rfl (fun _ => by kernel_rfl) ?_)
    refine Xg.ops_op (by kernel_rfl) (Xg.opx_callE' [] (fun xx2 => [PpR xx1.fst xx1.snd, A]) (fun _ => by kernel_rfl) (@Go.Proofs.Ytkfclamiendamaa.pick_d (st) ((nat_lit 16)) (by omega) (by first | rfl | decide | (constructor <;> omega) | (simp; done) | (simp; omega))) (by kernel_rfl) (by kernel_rfl) (by kernel_rfl) fun xx2 xh2 => ?_)
    try dsimp only at xh2
    obtain ⟨xh2_0, xh2_1⟩ := xh2
    refine Xg.ops_op (by kernel_rfl) (Xg.opx_int .i64 (IntKind.wrap .i64 (((↑xx2 : Int) * (8 : Int)))) rfl (fun _ => by kernel_rfl) (Xg.wrap_i64_in (by omega)) ?_)
    refine Xg.ops_op (by kernel_rfl) (Xg.opx_pure ((iv ((↑xx2 : Int) * (8 : Int)))) rfl (fun _ => by kernel_rfl) ?_)
    refine Xg.ops_nil ?_
    refine Xg.at_seq ?_
    refine Xg.at_region ?_
    refine Xg.ops_op (by kernel_rfl) (Xg.opx_pure ((iv lyc)) rfl (fun _ => by kernel_rfl) ?_)
    refine Xg.ops_op (by kernel_rfl) (Xg.opx_callE' [] (fun xx3 => [PpR xx1.fst xx1.snd, A]) (fun _ => by kernel_rfl) (@Go.Proofs.Ytkfclamiendamaa.pick_d (lyc) ((nat_lit 256)) (by omega) (by first | rfl | decide | (constructor <;> omega) | (simp; done) | (simp; omega))) (by kernel_rfl) (by kernel_rfl) (by kernel_rfl) fun xx3 xh3 => ?_)
    try dsimp only at xh3
    obtain ⟨xh3_0, xh3_1⟩ := xh3
    refine Xg.ops_op (by kernel_rfl) (Xg.opx_pure ((iv (↑xx3 : Int))) rfl (fun _ => by kernel_rfl) ?_)
    refine Xg.ops_nil ?_
    refine Xg.at_seq ?_
    refine Xg.at_region ?_
    refine Xg.ops_op (by kernel_rfl) (Xg.opx_pure ((pv xx1.fst 0)) rfl (fun _ => by kernel_rfl) ?_)
    refine Xg.ops_op (by kernel_rfl) (Xg.opx_pure ((iv (↑xx3 : Int))) rfl (fun _ => by kernel_rfl) ?_)
    refine Xg.ops_op (by kernel_rfl) (Xg.opx_callE' [0] (fun xx4 => [PpR xx1.fst xx4, A]) (fun _ => by kernel_rfl) (@Go.Proofs.Ytkfclamiendamaa.write_k (xx1.fst) (xx1.snd) (by omega) (((65349 : Int))) (((↑xx3 : Int))) (by omega)) (by kernel_rfl) (by kernel_rfl) (by kernel_rfl) fun xx4 xh4 => ?_)
    try dsimp only at xh4
    obtain ⟨xh4_0, xh4_1⟩ := xh4
    refine Xg.ops_nil ?_
    refine Xg.at_seq ?_
    refine Xg.at_region ?_
    refine Xg.ops_op (by kernel_rfl) (Xg.opx_pure ((pv xx1.fst 0)) rfl (fun _ => by kernel_rfl) ?_)
    refine Xg.ops_op (by kernel_rfl) (Xg.opx_pure ((iv ((↑xx2 : Int) * (8 : Int)))) rfl (fun _ => by kernel_rfl) ?_)
    refine Xg.ops_op (by kernel_rfl) (Xg.opx_callE' [0] (fun xx5 => [PpR xx1.fst xx5, A]) (fun _ => by kernel_rfl) (@Go.Proofs.Ytkfclamiendamaa.write_k (xx1.fst) (xx4) (by omega) (((65345 : Int))) (((↑xx2 : Int) * (8 : Int))) (by omega)) (by kernel_rfl) (by kernel_rfl) (by kernel_rfl) fun xx5 xh5 => ?_)
    try dsimp only at xh5
    obtain ⟨xh5_0, xh5_1⟩ := xh5
    refine Xg.ops_nil ?_
    refine Xg.at_seq ?_
    refine Xg.at_seq ?_
    refine Xg.at_region ?_
    refine Xg.ops_op (by kernel_rfl) (Xg.opx_pure ((iv 0)) rfl (fun _ => by kernel_rfl) ?_)
    refine Xg.ops_nil ?_
    refine Xg.at_block ?_)
  have t0 : Tm 145 ((xx2 : Int) * 8) xx3 0 xx5 := by
    rw [show xx5 = _ by assumption, show xx4 = _ by assumption, show xx1.2 = newP by assumption]
    exact tm_asks xx2 xx3 (by omega) (by omega)
  (focus
    refine Xg.at_rounds_inv (α := (Nat × Pp) × (Nat → Value)) (fun x => ((fun x => x.1 ≤ 17556 ∧ Tm 145 ((xx2 : Int) * 8) xx3 x.1 x.2) : (Nat × Pp) → Prop) x.1) (fun x => ((fun x => 17556 - x.1) : (Nat × Pp) → Nat) x.1) (fun x => Xg.headT [iv st, iv lyc, iv fr, tu, tu, tu, Value.bool false, pv xx1.fst 0, iv ((↑xx2 : Int) * (8 : Int)), iv (↑xx3 : Int), iv 0, tu, tu, tu, tu, tu, tu, pv xx1.fst 0, pv xx1.fst 0, Value.bool false, iv st, iv (↑xx2 : Int), iv ((↑xx2 : Int) * (8 : Int)), iv lyc, iv (↑xx3 : Int), pv xx1.fst 0, iv (↑xx3 : Int), tu, pv xx1.fst 0, iv ((↑xx2 : Int) * (8 : Int)), tu, tu, tu, tu, tu, tu, tu, tu, tu, tu, tu, tu, tu, tu, tu, tu, tu, tu, tu, tu, tu, tu, tu, tu, tu, tu, tu, tu, tu, tu, tu, tu, tu, tu, tu, tu, tu, tu, tu, tu, tu, tu, tu, tu, tu, tu, tu] [31, 32, 33, 34, 35, 36] (((fun x => [(10, .int .i64 (x.1 : Nat))]) : (Nat × Pp) → List (Nat × Go.Value)) x.1) x.2) (fun x => ((fun x => [PpR xx1.1 x.2, A]) : (Nat × Pp) → List Go.Sl.HP) x.1) (((0, xx5)), fun j => ([iv st, iv lyc, iv fr, tu, tu, tu, Value.bool false, pv xx1.fst 0, iv ((↑xx2 : Int) * (8 : Int)), iv (↑xx3 : Int), iv 0, tu, tu, tu, tu, tu, tu, pv xx1.fst 0, pv xx1.fst 0, Value.bool false, iv st, iv (↑xx2 : Int), iv ((↑xx2 : Int) * (8 : Int)), iv lyc, iv (↑xx3 : Int), pv xx1.fst 0, iv (↑xx3 : Int), tu, pv xx1.fst 0, iv ((↑xx2 : Int) * (8 : Int)), tu, tu, tu, tu, tu, tu, tu, tu, tu, tu, tu, tu, tu, tu, tu, tu, tu, tu, tu, tu, tu, tu, tu, tu, tu, tu, tu, tu, tu, tu, tu, tu, tu, tu, tu, tu, tu, tu, tu, tu, tu, tu, tu, tu, tu, tu, tu] : List Value).getD j undef) (by kernel_rfl) (by kernel_rfl) ?_ ?_)
  · exact ⟨Nat.zero_le _, t0⟩
  rintro ⟨⟨i, σ⟩, J⟩ ⟨hi, ht⟩ ih
  dsimp only at hi ht
  have hok := ht.at4.ok
  (focus
    refine Xg.At.same (T' := [iv st, iv lyc, iv fr, tu, tu, tu, Value.bool false, pv xx1.fst 0, iv ((↑xx2 : Int) * (8 : Int)), iv (↑xx3 : Int), iv (↑i : Int), tu, tu, tu, tu, tu, tu, pv xx1.fst 0, pv xx1.fst 0, Value.bool false, iv st, iv (↑xx2 : Int), iv ((↑xx2 : Int) * (8 : Int)), iv lyc, iv (↑xx3 : Int), pv xx1.fst 0, iv (↑xx3 : Int), tu, pv xx1.fst 0, iv ((↑xx2 : Int) * (8 : Int)), tu, J 31, J 32, J 33, J 34, J 35, J 36, tu, tu, tu, tu, tu, tu, tu, tu, tu, tu, tu, tu, tu, tu, tu, tu, tu, tu, tu, tu, tu, tu, tu, tu, tu, tu, tu, tu, tu, tu, tu, tu, tu, tu, tu, tu, tu, tu, tu, tu]) (L' := [PpR xx1.fst ((i, σ), J).fst.snd, A]) (by kernel_rfl) rfl ?_)
  by_cases hlt : i < 17556
  · have hn' := tm_next ht
    have htk : Does Try.prog 38 [pt xx1.1] [PpR xx1.1 σ] (RetE (fun x : Pp × Int => x.1 = tickP σ) (fun x => .int .i64 x.2) (fun x => [PpR xx1.1 x.1])) :=
      (tick_d xx1.1 σ hok).mono fun _ _ ⟨x, ⟨h1, _⟩, e1, e2⟩ => ⟨x, h1, e1, e2⟩
    (focus
      refine Xg.at_seq ?_
      refine Xg.at_seq ?_
      refine Xg.at_region ?_
      refine Xg.ops_op (by kernel_rfl) (Xg.opx_pure ((iv (↑i : Int))) rfl (fun _ => by kernel_rfl) ?_)
      refine Xg.ops_op (by kernel_rfl) (Xg.opx_pure (.bool (decide ((((↑i : Int)) : Int) < ((17556 : Int))))) rfl (fun _ => by kernel_rfl) ?_)
      refine Xg.ops_nil ?_
      refine Xg.at_true (t := decide (((↑i : Int) < (17556 : Int)))) (by kernel_rfl) (decide_eq_true (by omega)) ?_
      refine Xg.at_skip ?_
      refine Xg.at_seq ?_
      refine Xg.at_block ?_
      refine Xg.at_region ?_
      refine Xg.ops_op (by kernel_rfl) (Xg.opx_pure ((pv xx1.fst 0)) rfl (fun _ => by kernel_rfl) ?_)
      refine Xg.ops_op (by kernel_rfl) (Xg.opx_callE' [0] (fun xx6 => [PpR xx1.fst xx6.fst, A]) (fun _ => by kernel_rfl) (@htk ) (by kernel_rfl) (by kernel_rfl) (by kernel_rfl) fun xx6 xh6 => ?_)
      try dsimp only at xh6
      refine Xg.ops_nil ?_
      refine Xg.at_inBlock ?_
      refine Xg.at_region ?_
      refine Xg.ops_op (by kernel_rfl) (Xg.opx_pure ((iv (↑i : Int))) rfl (fun _ => by kernel_rfl) ?_)
      refine Xg.ops_op (by kernel_rfl) (Xg.opx_int .i64 (IntKind.wrap .i64 (((↑i : Int) + (1 : Int)))) rfl (fun _ => by kernel_rfl) (Xg.wrap_i64_in (by omega)) ?_)
      refine Xg.ops_op (by kernel_rfl) (Xg.opx_pure ((iv ((↑i : Int) + (1 : Int)))) rfl (fun _ => by kernel_rfl) ?_)
      refine Xg.ops_nil ?_
      refine Xg.at_inLoop ?_)
    (focus
      refine Xg.at_keep [0, 1] (by kernel_rfl) ?_
      refine Xg.At.same (by kernel_rfl) ?_ (ih (((i + 1, xx6.1)), fun j => ([iv st, iv lyc, iv fr, tu, tu, tu, Value.bool false, pv xx1.fst 0, iv ((↑xx2 : Int) * (8 : Int)), iv (↑xx3 : Int), iv ((↑i : Int) + (1 : Int)), tu, tu, tu, tu, tu, tu, pv xx1.fst 0, pv xx1.fst 0, Value.bool false, iv st, iv (↑xx2 : Int), iv ((↑xx2 : Int) * (8 : Int)), iv lyc, iv (↑xx3 : Int), pv xx1.fst 0, iv (↑xx3 : Int), tu, pv xx1.fst 0, iv ((↑xx2 : Int) * (8 : Int)), tu, iv (↑i : Int), Value.bool (decide ((↑i : Int) < (17556 : Int))), iv (↑i : Int), iv ((↑i : Int) + (1 : Int)), pv xx1.fst 0, iv xx6.snd, tu, tu, tu, tu, tu, tu, tu, tu, tu, tu, tu, tu, tu, tu, tu, tu, tu, tu, tu, tu, tu, tu, tu, tu, tu, tu, tu, tu, tu, tu, tu, tu, tu, tu, tu, tu, tu, tu, tu, tu] : List Value).getD j undef) ?_ ?_))
    · rfl
    · exact ⟨by dsimp only; omega, by rw [show xx6.1 = tickP σ by assumption]; exact hn'⟩
    · dsimp only; omega
  · clear ih
    have hin : i = 17556 := by omega
    subst hin
    (focus
      refine Xg.at_seq ?_
      refine Xg.at_seq ?_
      refine Xg.at_region ?_
      refine Xg.ops_op (by kernel_rfl) (Xg.opx_pure ((iv 17556)) rfl (fun _ => by kernel_rfl) ?_)
      refine Xg.ops_op (by kernel_rfl) (Xg.opx_pure ((Value.bool false)) rfl (fun _ => by kernel_rfl) ?_)
      refine Xg.ops_nil ?_
      refine Xg.at_false (t := false) (by kernel_rfl) rfl ?_
      refine Xg.at_exit rfl ?_
      refine Xg.at_seq ?_
      refine Xg.at_region ?_
      refine Xg.ops_op (by kernel_rfl) (Xg.opx_pure ((iv fr)) rfl (fun _ => by kernel_rfl) ?_)
      refine Xg.ops_op (by kernel_rfl) (Xg.opx_callE' [] (fun xx6 => [PpR xx1.fst σ, A]) (fun _ => by kernel_rfl) (@Go.Proofs.Ytkfclamiendamaa.pick_d (fr) ((nat_lit 2)) (by omega) (by first | rfl | decide | (constructor <;> omega) | (simp; done) | (simp; omega))) (by kernel_rfl) (by kernel_rfl) (by kernel_rfl) fun xx6 xh6 => ?_)
      try dsimp only at xh6
      obtain ⟨xh6_0, xh6_1⟩ := xh6
      refine Xg.ops_op (by kernel_rfl) (Xg.opx_int .i64 (IntKind.wrap .i64 (((1 : Int) + (↑xx6 : Int)))) rfl (fun _ => by kernel_rfl) (Xg.wrap_i64_in (by omega)) ?_)
      refine Xg.ops_op (by kernel_rfl) (Xg.opx_pure ((iv ((1 : Int) + (↑xx6 : Int)))) rfl (fun _ => by kernel_rfl) ?_)
      refine Xg.ops_nil ?_
      refine Xg.at_seq ?_
      refine Xg.at_region ?_
      refine Xg.ops_op (by kernel_rfl) (Xg.opx_pure ((iv 0)) rfl (fun _ => by kernel_rfl) ?_)
      refine Xg.ops_nil ?_
      refine Xg.at_seq ?_
      refine Xg.at_region ?_
      refine Xg.ops_op (by kernel_rfl) (Xg.opx_pure ((iv 0)) rfl (fun _ => by kernel_rfl) ?_)
      refine Xg.ops_nil ?_
      refine Xg.at_seq ?_
      refine Xg.at_seq ?_
      refine Xg.at_region ?_
      refine Xg.ops_op (by kernel_rfl) (Xg.opx_pure ((iv 0)) rfl (fun _ => by kernel_rfl) ?_)
      refine Xg.ops_nil ?_
      refine Xg.at_block ?_)
    rcases (by omega : xx6 = 0 ∨ xx6 = 1) with e | e
    · subst e
      (focus
        refine Xg.at_rounds_inv (α := (Nat × Int × Int × Pp) × (Nat → Value)) (fun x => ((fun x => x.1 ≤ 17556 * 1 ∧ Tm 145 ((xx2 : Int) * 8) xx3 (17556 + x.1) x.2.2.2 ∧ x.2.1 = (sumN ((xx2 : Int) * 8) xx3 x.1 : Nat) ∧ x.2.2.1 = (((x.1 + 1140) / 17556 : Nat) : Int)) : (Nat × Int × Int × Pp) → Prop) x.1) (fun x => ((fun x => 17556 * 1 - x.1) : (Nat × Int × Int × Pp) → Nat) x.1) (fun x => Xg.headT [iv st, iv lyc, iv fr, tu, tu, tu, Value.bool false, pv xx1.fst 0, iv ((↑xx2 : Int) * (8 : Int)), iv (↑xx3 : Int), iv 17556, iv 1, iv 0, iv 0, iv 0, tu, tu, pv xx1.fst 0, pv xx1.fst 0, Value.bool false, iv st, iv (↑xx2 : Int), iv ((↑xx2 : Int) * (8 : Int)), iv lyc, iv (↑xx3 : Int), pv xx1.fst 0, iv (↑xx3 : Int), tu, pv xx1.fst 0, iv ((↑xx2 : Int) * (8 : Int)), tu, iv 17556, Value.bool false, (((17556 : Nat), σ), J).snd (33 : Nat), (((17556 : Nat), σ), J).snd (34 : Nat), (((17556 : Nat), σ), J).snd (35 : Nat), (((17556 : Nat), σ), J).snd (36 : Nat), iv fr, iv 0, iv 1, tu, tu, tu, tu, tu, tu, tu, tu, tu, tu, tu, tu, tu, tu, tu, tu, tu, tu, tu, tu, tu, tu, tu, tu, tu, tu, tu, tu, tu, tu, tu, tu, tu, tu, tu, tu, tu] [15, 40, 41, 42, 43, 44, 45, 46, 47, 48, 49, 50, 51, 52, 53, 54, 55, 56] (((fun x => [(12, .int .i64 x.2.1), (13, .int .i64 x.2.2.1), (14, .int .i64 (x.1 : Nat))]) : (Nat × Int × Int × Pp) → List (Nat × Go.Value)) x.1) x.2) (fun x => ((fun x => [PpR xx1.1 x.2.2.2, A]) : (Nat × Int × Int × Pp) → List Go.Sl.HP) x.1) (((0, (0 : Int), (0 : Int), σ)), fun j => ([iv st, iv lyc, iv fr, tu, tu, tu, Value.bool false, pv xx1.fst 0, iv ((↑xx2 : Int) * (8 : Int)), iv (↑xx3 : Int), iv 17556, iv 1, iv 0, iv 0, iv 0, tu, tu, pv xx1.fst 0, pv xx1.fst 0, Value.bool false, iv st, iv (↑xx2 : Int), iv ((↑xx2 : Int) * (8 : Int)), iv lyc, iv (↑xx3 : Int), pv xx1.fst 0, iv (↑xx3 : Int), tu, pv xx1.fst 0, iv ((↑xx2 : Int) * (8 : Int)), tu, iv 17556, Value.bool false, (((17556 : Nat), σ), J).snd (33 : Nat), (((17556 : Nat), σ), J).snd (34 : Nat), (((17556 : Nat), σ), J).snd (35 : Nat), (((17556 : Nat), σ), J).snd (36 : Nat), iv fr, iv 0, iv 1, tu, tu, tu, tu, tu, tu, tu, tu, tu, tu, tu, tu, tu, tu, tu, tu, tu, tu, tu, tu, tu, tu, tu, tu, tu, tu, tu, tu, tu, tu, tu, tu, tu, tu, tu, tu, tu] : List Value).getD j undef) (by kernel_rfl) (by kernel_rfl) ?_ ?_)
      · exact ⟨Nat.zero_le _, ht, rfl, by show (0 : Int) = (((0 + 1140) / 17556 : Nat) : Int); decide⟩
      rintro ⟨⟨i, q, b, τ⟩, J2⟩ ⟨hi, hu, hq, hb⟩ ih
      dsimp only at hi hu hq hb
      have hok := hu.at4.ok
      (focus
        refine Xg.At.same (T' := [iv st, iv lyc, iv fr, tu, tu, tu, Value.bool false, pv xx1.fst 0, iv ((↑xx2 : Int) * (8 : Int)), iv (↑xx3 : Int), iv 17556, iv 1, iv q, iv b, iv (↑i : Int), J2 15, tu, pv xx1.fst 0, pv xx1.fst 0, Value.bool false, iv st, iv (↑xx2 : Int), iv ((↑xx2 : Int) * (8 : Int)), iv lyc, iv (↑xx3 : Int), pv xx1.fst 0, iv (↑xx3 : Int), tu, pv xx1.fst 0, iv ((↑xx2 : Int) * (8 : Int)), tu, iv 17556, Value.bool false, (((17556 : Nat), σ), J).snd (33 : Nat), (((17556 : Nat), σ), J).snd (34 : Nat), (((17556 : Nat), σ), J).snd (35 : Nat), (((17556 : Nat), σ), J).snd (36 : Nat), iv fr, iv 0, iv 1, J2 40, J2 41, J2 42, J2 43, J2 44, J2 45, J2 46, J2 47, J2 48, J2 49, J2 50, J2 51, J2 52, J2 53, J2 54, J2 55, J2 56, tu, tu, tu, tu, tu, tu, tu, tu, tu, tu, tu, tu, tu, tu, tu, tu, tu, tu, tu, tu]) (L' := [PpR xx1.fst ((i, q, b, τ), J2).fst.snd.snd.snd, A]) (by kernel_rfl) rfl ?_)
      by_cases hlt : i < 17556 * 1
      · have hn' := tm_next hu
        have hk := at4_ask hu.at4
        have ha2 := ask_at hu
        have hs := sum_succ ((xx2 : Int) * 8) xx3 i
        rw [show (17556 + i + 1) % 17556 = (i + 1) % 17556 from by omega] at ha2
        have htb := tickA_bd τ
        have hbb := band64_1 (x := tickA τ) (by omega)
        have hle := sumN_le ((xx2 : Int) * 8) xx3 i
        obtain ⟨a, ha⟩ : ∃ a, tickA τ = a := ⟨_, rfl⟩
        have htk : Does Try.prog 38 [pt xx1.1] [PpR xx1.1 τ] (RetE (fun x : Pp => x = tickP τ ∧ x.Ok) (fun _ => .int .i64 a) (fun x => [PpR xx1.1 x])) :=
          (tick_d xx1.1 τ hok).mono fun _ _ ⟨x, ⟨h1, h2, h3, _⟩, e1, e2⟩ => ⟨x.1, ⟨h1, h3⟩, by rw [e1]; show Value.int .i64 x.2 = Value.int .i64 a; rw [h2, ha], e2⟩
        rw [ha] at hk ha2 htb hbb
        obtain ⟨u, hu1⟩ : ∃ u, sumN ((xx2 : Int) * 8) xx3 i = u := ⟨_, rfl⟩
        obtain ⟨u2, hu2⟩ : ∃ u, sumN ((xx2 : Int) * 8) xx3 (i + 1) = u := ⟨_, rfl⟩
        rw [hu1] at hq hle hs
        rw [hu2] at hs
        (focus
          refine Xg.at_seq ?_
          refine Xg.at_seq ?_
          refine Xg.at_region ?_
          refine Xg.ops_op (by kernel_rfl) (Xg.opx_pure ((iv (↑i : Int))) rfl (fun _ => by kernel_rfl) ?_)
          refine Xg.ops_op (by kernel_rfl) (Xg.opx_pure ((iv 1)) rfl (fun _ => by kernel_rfl) ?_)
          refine Xg.ops_op (by kernel_rfl) (Xg.opx_pure ((iv 154)) rfl (fun _ => by kernel_rfl) ?_)
          refine Xg.ops_op (by kernel_rfl) (Xg.opx_pure ((iv 17556)) rfl (fun _ => by kernel_rfl) ?_)
          refine Xg.ops_op (by kernel_rfl) (Xg.opx_pure (.bool (decide ((((↑i : Int)) : Int) < ((17556 : Int))))) rfl (fun _ => by kernel_rfl) ?_)
          refine Xg.ops_nil ?_
          refine Xg.at_true (t := decide (((↑i : Int) < (17556 : Int)))) (by kernel_rfl) (decide_eq_true (by omega)) ?_
          refine Xg.at_skip ?_
          refine Xg.at_seq ?_
          refine Xg.at_block ?_
          refine Xg.at_seq ?_
          refine Xg.at_region ?_
          refine Xg.ops_op (by kernel_rfl) (Xg.opx_pure ((pv xx1.fst 0)) rfl (fun _ => by kernel_rfl) ?_)
          refine Xg.ops_op (by kernel_rfl) (Xg.opx_callE' [0] (fun xx6 => [PpR xx1.fst xx6, A]) (fun _ => by kernel_rfl) (@htk ) (by kernel_rfl) (by kernel_rfl) (by kernel_rfl) fun xx6 xh7 => ?_)
          try dsimp only at xh7
          obtain ⟨xh7_0, xh7_1⟩ := xh7
          refine Xg.ops_op (by kernel_rfl) (Xg.opx_pure ((iv a)) rfl (fun _ => by kernel_rfl) ?_)
          refine Xg.ops_nil ?_
          refine Xg.at_seq ?_
          refine Xg.at_region ?_
          refine Xg.ops_op (by kernel_rfl) (Xg.opx_pure ((iv q)) rfl (fun _ => by kernel_rfl) ?_)
          refine Xg.ops_op (by kernel_rfl) (Xg.opx_pure ((iv a)) rfl (fun _ => by kernel_rfl) ?_)
          refine Xg.ops_op (by kernel_rfl) (Xg.opx_int .i64 (IntKind.wrap .i64 (Int.tdiv (a) (((2 : Int))))) rfl (fun _ => by kernel_rfl) (Xg.wrap_i64_quo (by omega)) ?_)
          refine Xg.ops_op (by kernel_rfl) (Xg.opx_int .i64 (IntKind.wrap .i64 ((q + a / (2 : Int)))) rfl (fun _ => by kernel_rfl) (Xg.wrap_i64_in (by omega)) ?_)
          refine Xg.ops_op (by kernel_rfl) (Xg.opx_pure ((iv (q + a / (2 : Int)))) rfl (fun _ => by kernel_rfl) ?_)
          refine Xg.ops_nil ?_
          refine Xg.at_region ?_
          refine Xg.ops_op (by kernel_rfl) (Xg.opx_pure ((iv b)) rfl (fun _ => by kernel_rfl) ?_)
          refine Xg.ops_op (by kernel_rfl) (Xg.opx_pure ((iv a)) rfl (fun _ => by kernel_rfl) ?_)
          refine Xg.ops_op (by kernel_rfl) (Xg.opx_pure (.int .i64 (Xg.band .i64 (a) (((1 : Int))))) rfl (fun _ => by kernel_rfl) ?_)
          refine Xg.ops_op (by kernel_rfl) (Xg.opx_int .i64 (IntKind.wrap .i64 ((b + band IntKind.i64 a (1 : Int)))) rfl (fun _ => by kernel_rfl) (Xg.wrap_i64_in (by omega)) ?_)
          refine Xg.ops_op (by kernel_rfl) (Xg.opx_pure ((iv (b + band IntKind.i64 a (1 : Int)))) rfl (fun _ => by kernel_rfl) ?_)
          refine Xg.ops_nil ?_
          refine Xg.at_inBlock ?_
          refine Xg.at_region ?_
          refine Xg.ops_op (by kernel_rfl) (Xg.opx_pure ((iv (↑i : Int))) rfl (fun _ => by kernel_rfl) ?_)
          refine Xg.ops_op (by kernel_rfl) (Xg.opx_int .i64 (IntKind.wrap .i64 (((↑i : Int) + (1 : Int)))) rfl (fun _ => by kernel_rfl) (Xg.wrap_i64_in (by omega)) ?_)
          refine Xg.ops_op (by kernel_rfl) (Xg.opx_pure ((iv ((↑i : Int) + (1 : Int)))) rfl (fun _ => by kernel_rfl) ?_)
          refine Xg.ops_nil ?_
          refine Xg.at_inLoop ?_)
        (focus
          refine Xg.at_keep [0, 1] (by kernel_rfl) ?_
          refine Xg.At.same (by kernel_rfl) ?_ (ih (((i + 1, q + a / 2, b + band .i64 a 1, xx6)), fun j => ([iv st, iv lyc, iv fr, tu, tu, tu, Value.bool false, pv xx1.fst 0, iv ((↑xx2 : Int) * (8 : Int)), iv (↑xx3 : Int), iv 17556, iv 1, iv (q + a / (2 : Int)), iv (b + band IntKind.i64 a (1 : Int)), iv ((↑i : Int) + (1 : Int)), iv a, tu, pv xx1.fst 0, pv xx1.fst 0, Value.bool false, iv st, iv (↑xx2 : Int), iv ((↑xx2 : Int) * (8 : Int)), iv lyc, iv (↑xx3 : Int), pv xx1.fst 0, iv (↑xx3 : Int), tu, pv xx1.fst 0, iv ((↑xx2 : Int) * (8 : Int)), tu, iv 17556, Value.bool false, (((17556 : Nat), σ), J).snd (33 : Nat), (((17556 : Nat), σ), J).snd (34 : Nat), (((17556 : Nat), σ), J).snd (35 : Nat), (((17556 : Nat), σ), J).snd (36 : Nat), iv fr, iv 0, iv 1, iv (↑i : Int), iv 1, iv 154, iv 17556, Value.bool (decide ((↑i : Int) < (17556 : Int))), iv (↑i : Int), iv ((↑i : Int) + (1 : Int)), pv xx1.fst 0, iv a, iv q, iv a, iv (a / (2 : Int)), iv (q + a / (2 : Int)), iv b, iv a, iv (band IntKind.i64 a (1 : Int)), iv (b + band IntKind.i64 a (1 : Int)), tu, tu, tu, tu, tu, tu, tu, tu, tu, tu, tu, tu, tu, tu, tu, tu, tu, tu, tu, tu] : List Value).getD j undef) ?_ ?_))
        · rfl
        · exact ⟨by dsimp only; omega, by rw [show xx6 = tickP τ by assumption]; exact hn', by dsimp only; rw [hu2]; omega, by dsimp only; omega⟩
        · dsimp only; omega
      · clear ih
        have hin : i = 17556 * 1 := by omega
        subst hin
        obtain ⟨E, hE⟩ : ∃ E, E = edgeN ((xx2 : Int) * 8) xx3 17556 := ⟨_, rfl⟩
        have hfull := sumN_full ((xx2 : Int) * 8) xx3 E hE 1
        rw [hfull] at hq
        have hst := stat_at (s := xx2) (by omega) hu
        have hrd := read_d xx1.1 τ hok.wf 65345 (by omega)
        obtain ⟨R, hR⟩ : ∃ R, readI τ 65345 = R := ⟨_, rfl⟩
        rw [hR] at hst hrd
        have hE2 : E ≤ 17556 := by rw [hE]; exact edge_le _ _ _
        have hed : Does Try.prog 40 [.int .i64 ((xx2 : Int) * 8), .int .i64 (xx3 : Nat)] [] (Ret (.int .i64 (E : Nat)) []) :=
          (edges_d ((xx2 : Int) * 8) xx3).mono fun _ _ ⟨x, ⟨h1, _⟩, e1, e2⟩ => ⟨by rw [e1]; show Value.int .i64 ((x : Nat) : Int) = _; rw [h1, hE], e2⟩
        clear hE hfull
        (focus
          refine Xg.at_seq ?_
          refine Xg.at_seq ?_
          refine Xg.at_region ?_
          refine Xg.ops_op (by kernel_rfl) (Xg.opx_pure ((iv 17556)) rfl (fun _ => by kernel_rfl) ?_)
          refine Xg.ops_op (by kernel_rfl) (Xg.opx_pure ((iv 1)) rfl (fun _ => by kernel_rfl) ?_)
          refine Xg.ops_op (by kernel_rfl) (Xg.opx_pure ((iv 154)) rfl (fun _ => by kernel_rfl) ?_)
          refine Xg.ops_op (by kernel_rfl) (Xg.opx_pure ((iv 17556)) rfl (fun _ => by kernel_rfl) ?_)
          refine Xg.ops_op (by kernel_rfl) (Xg.opx_pure ((Value.bool false)) rfl (fun _ => by kernel_rfl) ?_)
          refine Xg.ops_nil ?_
          refine Xg.at_false (t := false) (by kernel_rfl) rfl ?_
          refine Xg.at_exit rfl ?_
          refine Xg.at_seq ?_
          refine Xg.at_region ?_
          refine Xg.ops_op (by kernel_rfl) (Xg.opx_pure ((iv ((↑xx2 : Int) * (8 : Int)))) rfl (fun _ => by kernel_rfl) ?_)
          refine Xg.ops_op (by kernel_rfl) (Xg.opx_pure ((iv (↑xx3 : Int))) rfl (fun _ => by kernel_rfl) ?_)
          refine Xg.ops_op (by kernel_rfl) (Xg.opx_call1' [] [PpR xx1.fst τ, A] (fun _ => by kernel_rfl) (@hed ) (by kernel_rfl) (by kernel_rfl) (by kernel_rfl) ?_)
          refine Xg.ops_op (by kernel_rfl) (Xg.opx_pure ((iv (↑E : Int))) rfl (fun _ => by kernel_rfl) ?_)
          refine Xg.ops_nil ?_
          refine Xg.at_seq ?_
          refine Xg.at_region ?_
          refine Xg.ops_op (by kernel_rfl) (Xg.opx_pure ((iv b)) rfl (fun _ => by kernel_rfl) ?_)
          refine Xg.ops_op (by kernel_rfl) (Xg.opx_pure ((iv 1)) rfl (fun _ => by kernel_rfl) ?_)
          refine Xg.ops_op (by kernel_rfl) (Xg.opx_pure (.bool (decide ((b : Int) = ((1 : Int))))) rfl (fun _ => by kernel_rfl) ?_)
          refine Xg.ops_op (by kernel_rfl) (Xg.opx_pure ((Value.bool (decide (b = (1 : Int))))) rfl (fun _ => by kernel_rfl) ?_)
          refine Xg.ops_flag (j := 63) (c := (decide (b = (1 : Int)))) (by kernel_rfl) (fun _ => ?_) (fun xh7 => absurd (of_decide_eq_false xh7) (by omega))
          refine Xg.ops_op (by kernel_rfl) (Xg.opx_pure ((iv q)) rfl (fun _ => by kernel_rfl) ?_)
          refine Xg.ops_op (by kernel_rfl) (Xg.opx_pure ((iv 1)) rfl (fun _ => by kernel_rfl) ?_)
          refine Xg.ops_op (by kernel_rfl) (Xg.opx_pure ((iv (↑E : Int))) rfl (fun _ => by kernel_rfl) ?_)
          refine Xg.ops_op (by kernel_rfl) (Xg.opx_int .i64 (IntKind.wrap .i64 (((1 : Int) * (↑E : Int)))) rfl (fun _ => by kernel_rfl) (Xg.wrap_i64_in (by omega)) ?_)
          refine Xg.ops_op (by kernel_rfl) (Xg.opx_pure (.bool (decide ((q : Int) = ((1 : Int) * (↑E : Int))))) rfl (fun _ => by kernel_rfl) ?_)
          refine Xg.ops_flag (j := 68) (c := (decide (q = (1 : Int) * (↑E : Int)))) (by kernel_rfl) (fun _ => ?_) (fun xh7 => absurd (of_decide_eq_false xh7) (by omega))
          refine Xg.ops_op (by kernel_rfl) (Xg.opx_pure ((Value.bool true)) rfl (fun _ => by kernel_rfl) ?_)
          refine Xg.ops_op (by kernel_rfl) (Xg.opx_pure ((Value.bool true)) rfl (fun _ => by kernel_rfl) ?_)
          refine Xg.ops_op (by kernel_rfl) (Xg.opx_pure ((pv xx1.fst 0)) rfl (fun _ => by kernel_rfl) ?_)
          refine Xg.ops_op (by kernel_rfl) (Xg.opx_call1' [0] [PpR xx1.fst τ, A] (fun _ => by kernel_rfl) (@hrd ) (by kernel_rfl) (by kernel_rfl) (by kernel_rfl) ?_)
          refine Xg.ops_op (by kernel_rfl) (Xg.opx_pure (.int .i64 (Xg.band .i64 (R) (((120 : Int))))) rfl (fun _ => by kernel_rfl) ?_)
          refine Xg.ops_op (by kernel_rfl) (Xg.opx_pure ((iv ((↑xx2 : Int) * (8 : Int)))) rfl (fun _ => by kernel_rfl) ?_)
          refine Xg.ops_op (by kernel_rfl) (Xg.opx_pure (.bool (decide (((band IntKind.i64 R (120 : Int)) : Int) = ((↑xx2 : Int) * (8 : Int))))) rfl (fun _ => by kernel_rfl) ?_)
          refine Xg.ops_flag (j := 75) (c := (decide (band IntKind.i64 R (120 : Int) = (↑xx2 : Int) * (8 : Int)))) (by kernel_rfl) (fun _ => ?_) (fun xh7 => absurd (of_decide_eq_false xh7) (by omega))
          refine Xg.ops_op (by kernel_rfl) (Xg.opx_pure ((Value.bool true)) rfl (fun _ => by kernel_rfl) ?_)
          refine Xg.ops_op (by kernel_rfl) (Xg.opx_pure ((Value.bool true)) rfl (fun _ => by kernel_rfl) ?_)
          refine Xg.ops_nil ?_
          refine Xg.at_ret_ps (v := (Value.bool true)) [1] [A] Go.Proofs.Try.func13 (fun _ => by kernel_rfl) (by kernel_rfl) (by kernel_rfl) ?_
          exact ⟨by kernel_rfl, by kernel_rfl⟩)
    · subst e
      (focus
        refine Xg.at_rounds_inv (α := (Nat × Int × Int × Pp) × (Nat → Value)) (fun x => ((fun x => x.1 ≤ 17556 * 2 ∧ Tm 145 ((xx2 : Int) * 8) xx3 (17556 + x.1) x.2.2.2 ∧ x.2.1 = (sumN ((xx2 : Int) * 8) xx3 x.1 : Nat) ∧ x.2.2.1 = (((x.1 + 1140) / 17556 : Nat) : Int)) : (Nat × Int × Int × Pp) → Prop) x.1) (fun x => ((fun x => 17556 * 2 - x.1) : (Nat × Int × Int × Pp) → Nat) x.1) (fun x => Xg.headT [iv st, iv lyc, iv fr, tu, tu, tu, Value.bool false, pv xx1.fst 0, iv ((↑xx2 : Int) * (8 : Int)), iv (↑xx3 : Int), iv 17556, iv 2, iv 0, iv 0, iv 0, tu, tu, pv xx1.fst 0, pv xx1.fst 0, Value.bool false, iv st, iv (↑xx2 : Int), iv ((↑xx2 : Int) * (8 : Int)), iv lyc, iv (↑xx3 : Int), pv xx1.fst 0, iv (↑xx3 : Int), tu, pv xx1.fst 0, iv ((↑xx2 : Int) * (8 : Int)), tu, iv 17556, Value.bool false, (((17556 : Nat), σ), J).snd (33 : Nat), (((17556 : Nat), σ), J).snd (34 : Nat), (((17556 : Nat), σ), J).snd (35 : Nat), (((17556 : Nat), σ), J).snd (36 : Nat), iv fr, iv 1, iv 2, tu, tu, tu, tu, tu, tu, tu, tu, tu, tu, tu, tu, tu, tu, tu, tu, tu, tu, tu, tu, tu, tu, tu, tu, tu, tu, tu, tu, tu, tu, tu, tu, tu, tu, tu, tu, tu] [15, 40, 41, 42, 43, 44, 45, 46, 47, 48, 49, 50, 51, 52, 53, 54, 55, 56] (((fun x => [(12, .int .i64 x.2.1), (13, .int .i64 x.2.2.1), (14, .int .i64 (x.1 : Nat))]) : (Nat × Int × Int × Pp) → List (Nat × Go.Value)) x.1) x.2) (fun x => ((fun x => [PpR xx1.1 x.2.2.2, A]) : (Nat × Int × Int × Pp) → List Go.Sl.HP) x.1) (((0, (0 : Int), (0 : Int), σ)), fun j => ([iv st, iv lyc, iv fr, tu, tu, tu, Value.bool false, pv xx1.fst 0, iv ((↑xx2 : Int) * (8 : Int)), iv (↑xx3 : Int), iv 17556, iv 2, iv 0, iv 0, iv 0, tu, tu, pv xx1.fst 0, pv xx1.fst 0, Value.bool false, iv st, iv (↑xx2 : Int), iv ((↑xx2 : Int) * (8 : Int)), iv lyc, iv (↑xx3 : Int), pv xx1.fst 0, iv (↑xx3 : Int), tu, pv xx1.fst 0, iv ((↑xx2 : Int) * (8 : Int)), tu, iv 17556, Value.bool false, (((17556 : Nat), σ), J).snd (33 : Nat), (((17556 : Nat), σ), J).snd (34 : Nat), (((17556 : Nat), σ), J).snd (35 : Nat), (((17556 : Nat), σ), J).snd (36 : Nat), iv fr, iv 1, iv 2, tu, tu, tu, tu, tu, tu, tu, tu, tu, tu, tu, tu, tu, tu, tu, tu, tu, tu, tu, tu, tu, tu, tu, tu, tu, tu, tu, tu, tu, tu, tu, tu, tu, tu, tu, tu, tu] : List Value).getD j undef) (by kernel_rfl) (by kernel_rfl) ?_ ?_)
      · exact ⟨Nat.zero_le _, ht, rfl, by show (0 : Int) = (((0 + 1140) / 17556 : Nat) : Int); decide⟩
      rintro ⟨⟨i, q, b, τ⟩, J2⟩ ⟨hi, hu, hq, hb⟩ ih
      dsimp only at hi hu hq hb
      have hok := hu.at4.ok
      (focus
        refine Xg.At.same (T' := [iv st, iv lyc, iv fr, tu, tu, tu, Value.bool false, pv xx1.fst 0, iv ((↑xx2 : Int) * (8 : Int)), iv (↑xx3 : Int), iv 17556, iv 2, iv q, iv b, iv (↑i : Int), J2 15, tu, pv xx1.fst 0, pv xx1.fst 0, Value.bool false, iv st, iv (↑xx2 : Int), iv ((↑xx2 : Int) * (8 : Int)), iv lyc, iv (↑xx3 : Int), pv xx1.fst 0, iv (↑xx3 : Int), tu, pv xx1.fst 0, iv ((↑xx2 : Int) * (8 : Int)), tu, iv 17556, Value.bool false, (((17556 : Nat), σ), J).snd (33 : Nat), (((17556 : Nat), σ), J).snd (34 : Nat), (((17556 : Nat), σ), J).snd (35 : Nat), (((17556 : Nat), σ), J).snd (36 : Nat), iv fr, iv 1, iv 2, J2 40, J2 41, J2 42, J2 43, J2 44, J2 45, J2 46, J2 47, J2 48, J2 49, J2 50, J2 51, J2 52, J2 53, J2 54, J2 55, J2 56, tu, tu, tu, tu, tu, tu, tu, tu, tu, tu, tu, tu, tu, tu, tu, tu, tu, tu, tu, tu]) (L' := [PpR xx1.fst ((i, q, b, τ), J2).fst.snd.snd.snd, A]) (by kernel_rfl) rfl ?_)
      by_cases hlt : i < 17556 * 2
      · have hn' := tm_next hu
        have hk := at4_ask hu.at4
        have ha2 := ask_at hu
        have hs := sum_succ ((xx2 : Int) * 8) xx3 i
        rw [show (17556 + i + 1) % 17556 = (i + 1) % 17556 from by omega] at ha2
        have htb := tickA_bd τ
        have hbb := band64_1 (x := tickA τ) (by omega)
        have hle := sumN_le ((xx2 : Int) * 8) xx3 i
        obtain ⟨a, ha⟩ : ∃ a, tickA τ = a := ⟨_, rfl⟩
        have htk : Does Try.prog 38 [pt xx1.1] [PpR xx1.1 τ] (RetE (fun x : Pp => x = tickP τ ∧ x.Ok) (fun _ => .int .i64 a) (fun x => [PpR xx1.1 x])) :=
          (tick_d xx1.1 τ hok).mono fun _ _ ⟨x, ⟨h1, h2, h3, _⟩, e1, e2⟩ => ⟨x.1, ⟨h1, h3⟩, by rw [e1]; show Value.int .i64 x.2 = Value.int .i64 a; rw [h2, ha], e2⟩
        rw [ha] at hk ha2 htb hbb
        obtain ⟨u, hu1⟩ : ∃ u, sumN ((xx2 : Int) * 8) xx3 i = u := ⟨_, rfl⟩
        obtain ⟨u2, hu2⟩ : ∃ u, sumN ((xx2 : Int) * 8) xx3 (i + 1) = u := ⟨_, rfl⟩
        rw [hu1] at hq hle hs
        rw [hu2] at hs
        (focus
          refine Xg.at_seq ?_
          refine Xg.at_seq ?_
          refine Xg.at_region ?_
          refine Xg.ops_op (by kernel_rfl) (Xg.opx_pure ((iv (↑i : Int))) rfl (fun _ => by kernel_rfl) ?_)
          refine Xg.ops_op (by kernel_rfl) (Xg.opx_pure ((iv 2)) rfl (fun _ => by kernel_rfl) ?_)
          refine Xg.ops_op (by kernel_rfl) (Xg.opx_pure ((iv 308)) rfl (fun _ => by kernel_rfl) ?_)
          refine Xg.ops_op (by kernel_rfl) (Xg.opx_pure ((iv 35112)) rfl (fun _ => by kernel_rfl) ?_)
          refine Xg.ops_op (by kernel_rfl) (Xg.opx_pure (.bool (decide ((((↑i : Int)) : Int) < ((35112 : Int))))) rfl (fun _ => by kernel_rfl) ?_)
          refine Xg.ops_nil ?_
          refine Xg.at_true (t := decide (((↑i : Int) < (35112 : Int)))) (by kernel_rfl) (decide_eq_true (by omega)) ?_
          refine Xg.at_skip ?_
          refine Xg.at_seq ?_
          refine Xg.at_block ?_
          refine Xg.at_seq ?_
          refine Xg.at_region ?_
          refine Xg.ops_op (by kernel_rfl) (Xg.opx_pure ((pv xx1.fst 0)) rfl (fun _ => by kernel_rfl) ?_)
          refine Xg.ops_op (by kernel_rfl) (Xg.opx_callE' [0] (fun xx6 => [PpR xx1.fst xx6, A]) (fun _ => by kernel_rfl) (@htk ) (by kernel_rfl) (by kernel_rfl) (by kernel_rfl) fun xx6 xh7 => ?_)
          try dsimp only at xh7
          obtain ⟨xh7_0, xh7_1⟩ := xh7
          refine Xg.ops_op (by kernel_rfl) (Xg.opx_pure ((iv a)) rfl (fun _ => by kernel_rfl) ?_)
          refine Xg.ops_nil ?_
          refine Xg.at_seq ?_
          refine Xg.at_region ?_
          refine Xg.ops_op (by kernel_rfl) (Xg.opx_pure ((iv q)) rfl (fun _ => by kernel_rfl) ?_)
          refine Xg.ops_op (by kernel_rfl) (Xg.opx_pure ((iv a)) rfl (fun _ => by kernel_rfl) ?_)
          refine Xg.ops_op (by kernel_rfl) (Xg.opx_int .i64 (IntKind.wrap .i64 (Int.tdiv (a) (((2 : Int))))) rfl (fun _ => by kernel_rfl) (Xg.wrap_i64_quo (by omega)) ?_)
          refine Xg.ops_op (by kernel_rfl) (Xg.opx_int .i64 (IntKind.wrap .i64 ((q + a / (2 : Int)))) rfl (fun _ => by kernel_rfl) (Xg.wrap_i64_in (by omega)) ?_)
          refine Xg.ops_op (by kernel_rfl) (Xg.opx_pure ((iv (q + a / (2 : Int)))) rfl (fun _ => by kernel_rfl) ?_)
          refine Xg.ops_nil ?_
          refine Xg.at_region ?_
          refine Xg.ops_op (by kernel_rfl) (Xg.opx_pure ((iv b)) rfl (fun _ => by kernel_rfl) ?_)
          refine Xg.ops_op (by kernel_rfl) (Xg.opx_pure ((iv a)) rfl (fun _ => by kernel_rfl) ?_)
          refine Xg.ops_op (by kernel_rfl) (Xg.opx_pure (.int .i64 (Xg.band .i64 (a) (((1 : Int))))) rfl (fun _ => by kernel_rfl) ?_)
          refine Xg.ops_op (by kernel_rfl) (Xg.opx_int .i64 (IntKind.wrap .i64 ((b + band IntKind.i64 a (1 : Int)))) rfl (fun _ => by kernel_rfl) (Xg.wrap_i64_in (by omega)) ?_)
          refine Xg.ops_op (by kernel_rfl) (Xg.opx_pure ((iv (b + band IntKind.i64 a (1 : Int)))) rfl (fun _ => by kernel_rfl) ?_)
          refine Xg.ops_nil ?_
          refine Xg.at_inBlock ?_
          refine Xg.at_region ?_
          refine Xg.ops_op (by kernel_rfl) (Xg.opx_pure ((iv (↑i : Int))) rfl (fun _ => by kernel_rfl) ?_)
          refine Xg.ops_op (by kernel_rfl) (Xg.opx_int .i64 (IntKind.wrap .i64 (((↑i : Int) + (1 : Int)))) rfl (fun _ => by kernel_rfl) (Xg.wrap_i64_in (by omega)) ?_)
          refine Xg.ops_op (by kernel_rfl) (Xg.opx_pure ((iv ((↑i : Int) + (1 : Int)))) rfl (fun _ => by kernel_rfl) ?_)
          refine Xg.ops_nil ?_
          refine Xg.at_inLoop ?_)
        (focus
          refine Xg.at_keep [0, 1] (by kernel_rfl) ?_
          refine Xg.At.same (by kernel_rfl) ?_ (ih (((i + 1, q + a / 2, b + band .i64 a 1, xx6)), fun j => ([iv st, iv lyc, iv fr, tu, tu, tu, Value.bool false, pv xx1.fst 0, iv ((↑xx2 : Int) * (8 : Int)), iv (↑xx3 : Int), iv 17556, iv 2, iv (q + a / (2 : Int)), iv (b + band IntKind.i64 a (1 : Int)), iv ((↑i : Int) + (1 : Int)), iv a, tu, pv xx1.fst 0, pv xx1.fst 0, Value.bool false, iv st, iv (↑xx2 : Int), iv ((↑xx2 : Int) * (8 : Int)), iv lyc, iv (↑xx3 : Int), pv xx1.fst 0, iv (↑xx3 : Int), tu, pv xx1.fst 0, iv ((↑xx2 : Int) * (8 : Int)), tu, iv 17556, Value.bool false, (((17556 : Nat), σ), J).snd (33 : Nat), (((17556 : Nat), σ), J).snd (34 : Nat), (((17556 : Nat), σ), J).snd (35 : Nat), (((17556 : Nat), σ), J).snd (36 : Nat), iv fr, iv 1, iv 2, iv (↑i : Int), iv 2, iv 308, iv 35112, Value.bool (decide ((↑i : Int) < (35112 : Int))), iv (↑i : Int), iv ((↑i : Int) + (1 : Int)), pv xx1.fst 0, iv a, iv q, iv a, iv (a / (2 : Int)), iv (q + a / (2 : Int)), iv b, iv a, iv (band IntKind.i64 a (1 : Int)), iv (b + band IntKind.i64 a (1 : Int)), tu, tu, tu, tu, tu, tu, tu, tu, tu, tu, tu, tu, tu, tu, tu, tu, tu, tu, tu, tu] : List Value).getD j undef) ?_ ?_))
        · rfl
        · exact ⟨by dsimp only; omega, by rw [show xx6 = tickP τ by assumption]; exact hn', by dsimp only; rw [hu2]; omega, by dsimp only; omega⟩
        · dsimp only; omega
      · clear ih
        have hin : i = 17556 * 2 := by omega
        subst hin
        obtain ⟨E, hE⟩ : ∃ E, E = edgeN ((xx2 : Int) * 8) xx3 17556 := ⟨_, rfl⟩
        have hfull := sumN_full ((xx2 : Int) * 8) xx3 E hE 2
        rw [hfull] at hq
        have hst := stat_at (s := xx2) (by omega) hu
        have hrd := read_d xx1.1 τ hok.wf 65345 (by omega)
        obtain ⟨R, hR⟩ : ∃ R, readI τ 65345 = R := ⟨_, rfl⟩
        rw [hR] at hst hrd
        have hE2 : E ≤ 17556 := by rw [hE]; exact edge_le _ _ _
        have hed : Does Try.prog 40 [.int .i64 ((xx2 : Int) * 8), .int .i64 (xx3 : Nat)] [] (Ret (.int .i64 (E : Nat)) []) :=
          (edges_d ((xx2 : Int) * 8) xx3).mono fun _ _ ⟨x, ⟨h1, _⟩, e1, e2⟩ => ⟨by rw [e1]; show Value.int .i64 ((x : Nat) : Int) = _; rw [h1, hE], e2⟩
        clear hE hfull
        (focus
          refine Xg.at_seq ?_
          refine Xg.at_seq ?_
          refine Xg.at_region ?_
          refine Xg.ops_op (by kernel_rfl) (Xg.opx_pure ((iv 35112)) rfl (fun _ => by kernel_rfl) ?_)
          refine Xg.ops_op (by kernel_rfl) (Xg.opx_pure ((iv 2)) rfl (fun _ => by kernel_rfl) ?_)
          refine Xg.ops_op (by kernel_rfl) (Xg.opx_pure ((iv 308)) rfl (fun _ => by kernel_rfl) ?_)
          refine Xg.ops_op (by kernel_rfl) (Xg.opx_pure ((iv 35112)) rfl (fun _ => by kernel_rfl) ?_)
          refine Xg.ops_op (by kernel_rfl) (Xg.opx_pure ((Value.bool false)) rfl (fun _ => by kernel_rfl) ?_)
          refine Xg.ops_nil ?_
          refine Xg.at_false (t := false) (by kernel_rfl) rfl ?_
          refine Xg.at_exit rfl ?_
          refine Xg.at_seq ?_
          refine Xg.at_region ?_
          refine Xg.ops_op (by kernel_rfl) (Xg.opx_pure ((iv ((↑xx2 : Int) * (8 : Int)))) rfl (fun _ => by kernel_rfl) ?_)
          refine Xg.ops_op (by kernel_rfl) (Xg.opx_pure ((iv (↑xx3 : Int))) rfl (fun _ => by kernel_rfl) ?_)
          refine Xg.ops_op (by kernel_rfl) (Xg.opx_call1' [] [PpR xx1.fst τ, A] (fun _ => by kernel_rfl) (@hed ) (by kernel_rfl) (by kernel_rfl) (by kernel_rfl) ?_)
          refine Xg.ops_op (by kernel_rfl) (Xg.opx_pure ((iv (↑E : Int))) rfl (fun _ => by kernel_rfl) ?_)
          refine Xg.ops_nil ?_
          refine Xg.at_seq ?_
          refine Xg.at_region ?_
          refine Xg.ops_op (by kernel_rfl) (Xg.opx_pure ((iv b)) rfl (fun _ => by kernel_rfl) ?_)
          refine Xg.ops_op (by kernel_rfl) (Xg.opx_pure ((iv 2)) rfl (fun _ => by kernel_rfl) ?_)
          refine Xg.ops_op (by kernel_rfl) (Xg.opx_pure (.bool (decide ((b : Int) = ((2 : Int))))) rfl (fun _ => by kernel_rfl) ?_)
          refine Xg.ops_op (by kernel_rfl) (Xg.opx_pure ((Value.bool (decide (b = (2 : Int))))) rfl (fun _ => by kernel_rfl) ?_)
          refine Xg.ops_flag (j := 63) (c := (decide (b = (2 : Int)))) (by kernel_rfl) (fun _ => ?_) (fun xh7 => absurd (of_decide_eq_false xh7) (by omega))
          refine Xg.ops_op (by kernel_rfl) (Xg.opx_pure ((iv q)) rfl (fun _ => by kernel_rfl) ?_)
          refine Xg.ops_op (by kernel_rfl) (Xg.opx_pure ((iv 2)) rfl (fun _ => by kernel_rfl) ?_)
          refine Xg.ops_op (by kernel_rfl) (Xg.opx_pure ((iv (↑E : Int))) rfl (fun _ => by kernel_rfl) ?_)
          refine Xg.ops_op (by kernel_rfl) (Xg.opx_int .i64 (IntKind.wrap .i64 (((2 : Int) * (↑E : Int)))) rfl (fun _ => by kernel_rfl) (Xg.wrap_i64_in (by omega)) ?_)
          refine Xg.ops_op (by kernel_rfl) (Xg.opx_pure (.bool (decide ((q : Int) = ((2 : Int) * (↑E : Int))))) rfl (fun _ => by kernel_rfl) ?_)
          refine Xg.ops_flag (j := 68) (c := (decide (q = (2 : Int) * (↑E : Int)))) (by kernel_rfl) (fun _ => ?_) (fun xh7 => absurd (of_decide_eq_false xh7) (by omega))
          refine Xg.ops_op (by kernel_rfl) (Xg.opx_pure ((Value.bool true)) rfl (fun _ => by kernel_rfl) ?_)
          refine Xg.ops_op (by kernel_rfl) (Xg.opx_pure ((Value.bool true)) rfl (fun _ => by kernel_rfl) ?_)
          refine Xg.ops_op (by kernel_rfl) (Xg.opx_pure ((pv xx1.fst 0)) rfl (fun _ => by kernel_rfl) ?_)
          refine Xg.ops_op (by kernel_rfl) (Xg.opx_call1' [0] [PpR xx1.fst τ, A] (fun _ => by kernel_rfl) (@hrd ) (by kernel_rfl) (by kernel_rfl) (by kernel_rfl) ?_)
          refine Xg.ops_op (by kernel_rfl) (Xg.opx_pure (.int .i64 (Xg.band .i64 (R) (((120 : Int))))) rfl (fun _ => by kernel_rfl) ?_)
          refine Xg.ops_op (by kernel_rfl) (Xg.opx_pure ((iv ((↑xx2 : Int) * (8 : Int)))) rfl (fun _ => by kernel_rfl) ?_)
          refine Xg.ops_op (by kernel_rfl) (Xg.opx_pure (.bool (decide (((band IntKind.i64 R (120 : Int)) : Int) = ((↑xx2 : Int) * (8 : Int))))) rfl (fun _ => by kernel_rfl) ?_)
          refine Xg.ops_flag (j := 75) (c := (decide (band IntKind.i64 R (120 : Int) = (↑xx2 : Int) * (8 : Int)))) (by kernel_rfl) (fun _ => ?_) (fun xh7 => absurd (of_decide_eq_false xh7) (by omega))
          refine Xg.ops_op (by kernel_rfl) (Xg.opx_pure ((Value.bool true)) rfl (fun _ => by kernel_rfl) ?_)
          refine Xg.ops_op (by kernel_rfl) (Xg.opx_pure ((Value.bool true)) rfl (fun _ => by kernel_rfl) ?_)
          refine Xg.ops_nil ?_
          refine Xg.at_ret_ps (v := (Value.bool true)) [1] [A] Go.Proofs.Try.func13 (fun _ => by kernel_rfl) (by kernel_rfl) (by kernel_rfl) ?_
          exact ⟨by kernel_rfl, by kernel_rfl⟩)

end Go.Proofs.Ytkfclamiendamaa
