/- The ports package's functions: clocks; what stays within its bounds. -/
import Derived.Test.YtncdmccdclhokaaDoorKP3
namespace Go.Proofs.YtncdmccdclhokaaDoor
open Go.Sl Go.Xg
set_option linter.unusedVariables false
set_option linter.unusedSimpArgs false
set_option maxHeartbeats 4000000
set_option maxRecDepth 100000
variable {te : TypeId}

theorem askI_nat (r n : Nat) (hr : r < 32) (hn : n < 5) : askI r n = ((r ||| 2 ^ n : Nat) : Int) := by
  unfold askI
  have e : IntKind.wrap .u8 (1 * 2 ^ min (n : Int).toNat 8) = ((2 ^ n : Nat) : Int) := by
    rw [wrap_u8_mod]
    match n, hn with
    | 0, _ => decide
    | 1, _ => decide
    | 2, _ => decide
    | 3, _ => decide
    | 4, _ => decide
  rw [e]
  have : 2 ^ n < 2 ^ 5 := Nat.pow_lt_pow_right (by omega) hn
  exact bor8 (by omega) (by omega)

theorem askI_bd {r : Int} (hr : 0 ≤ r ∧ r ≤ 31) (n : Nat) (hn : n < 5) : 0 ≤ askI r n ∧ askI r n ≤ 31 := by
  obtain ⟨r, rfl⟩ := nat_of hr.1
  rw [askI_nat r n (by omega) hn]
  have h1 : 2 ^ n < 2 ^ 5 := Nat.pow_lt_pow_right (by omega) hn
  have : r ||| 2 ^ n < 2 ^ 5 := Nat.or_lt_two_pow (by omega) h1
  omega

theorem alarmed_wf {σ : Po} (h : σ.Wf) : (alarmed σ).Wf := by
  obtain ⟨h1, h2, h3, h4, h5, h6, h7, h8, h9, h10, h11, h12⟩ := h
  have ha := askI_bd h9 2 (by omega)
  unfold alarmed
  split
  · split
    · exact ⟨h1, h2, h3, h4, h5, h7, h7, h8, ha, by dsimp only; omega, h11, h12⟩
    · exact ⟨h1, h2, h3, h4, h5, h6, h7, h8, h9, by dsimp only; omega, h11, h12⟩
  · exact ⟨h1, h2, h3, h4, h5, h6, h7, h8, h9, h10, h11, h12⟩

theorem driven_wf {σ : Po} (h : σ.Wf) (b : Bool) : (driven b σ).Wf := by
  obtain ⟨h1, h2, h3, h4, h5, h6, h7, h8, h9, h10, h11, h12⟩ := h
  unfold driven ticked
  split
  · split
    · exact ⟨h1, h2, h3, h4, h5, h6, h7, h8, h9, h10, h11, h12⟩
    · split
      · exact ⟨h1, h2, h3, h4, h5, by dsimp only; omega, h7, h8, h9, by dsimp only; omega, h11, h12⟩
      · exact ⟨h1, h2, h3, h4, h5, by dsimp only; omega, h7, h8, h9, h10, h11, h12⟩
  · exact ⟨h1, h2, h3, h4, h5, h6, h7, h8, h9, h10, h11, h12⟩

theorem counted_wf {σ : Po} (h : σ.Wf) : (counted σ).Wf := by
  have hc := h.counter
  have h2 : ({ σ with counter := (σ.counter + 1) % 65536 } : Po).Wf := ⟨h.buttons, h.rows, h.shift, h.line, by dsimp only; omega, h.timer, h.again, h.control, h.requests, h.alarm, h.transfer, h.sending⟩
  exact driven_wf h2 _

theorem endsP_wf {σ : Po} (h : σ.Wf) : (endsP σ).Wf := by
  obtain ⟨h1, h2, h3, h4, h5, h6, h7, h8, h9, h10, h11, h12⟩ := h
  have ha := askI_bd h9 3 (by omega)
  have hl : 0 ≤ bclr .u8 σ.line 128 ∧ bclr .u8 σ.line 128 ≤ 255 := by
    obtain ⟨n, hn⟩ := nat_of h4.1
    rw [hn]
    have e : bclr .u8 n 128 = ((n &&& (255 - 128) : Nat) : Int) := bclr8 (x := n) (y := 128) (by omega) (by omega)
    have h2 : n &&& (255 - 128) ≤ n := Nat.and_le_left
    rw [e]; omega
  exact ⟨h1, h2, ⟨by show (0 : Int) ≤ 255; omega, by show (255 : Int) ≤ 255; omega⟩, hl, h5, h6, h7, h8, ha, h10, h11, ⟨Int.le_refl 0, by show (0 : Int) ≤ 255; omega⟩⟩

theorem clockP_wf {σ : Po} (h : σ.Wf) : (clockP σ).Wf := by
  have hc := counted_wf (alarmed_wf h)
  have ht := h.transfer
  unfold clockP
  split
  · have hc2 : ({ counted (alarmed σ) with transfer := σ.transfer - 1 } : Po).Wf := ⟨hc.buttons, hc.rows, hc.shift, hc.line, hc.counter, hc.timer, hc.again, hc.control, hc.requests, hc.alarm, by dsimp only; omega, hc.sending⟩
    split
    · exact endsP_wf hc2
    · exact hc2
  · exact hc

theorem clockX_len (σ : Po) (xs : List Int) (h : xs.length ≤ 256) : (clockX σ xs).length ≤ 256 := by
  unfold clockX endsX
  split
  · split
    · simp; omega
    · exact h
  · exact h

/-- Clocks, one by one. -/
def clk : Nat → Po × List Int → Po × List Int
  | 0, x => x
  | n + 1, x => (clockP (clk n x).1, clockX (clk n x).1 (clk n x).2)

theorem clk_ok {x : Po × List Int} (h : x.1.Wf ∧ x.2.length ≤ 256) (n : Nat) : (clk n x).1.Wf ∧ (clk n x).2.length ≤ 256 := by
  induction n with
  | zero => exact h
  | succ n ih => exact ⟨clockP_wf ih.1, clockX_len _ _ ih.2⟩

theorem step_d (p : Nat) (σ : Po) (hσ : σ.Wf) (a : Option Addr) (c : Nat) (xs : List Int) (hl : xs.length ≤ 256) (n : Nat) (hn : n ≤ 1000000) :
    Does Tryd.prog 17 [pt p, .int .i64 n] [PoS p σ a c xs, bts a c xs, (Drv te)]
      (RetE (fun x : Po × Option Addr × Nat × List Int => (x.1, x.2.2.2) = clk n (σ, xs)) (fun _ => .int .i64 0) (fun x => [PoS p x.1 x.2.1 x.2.2.1 x.2.2.2, bts x.2.1 x.2.2.1 x.2.2.2, (Drv te)])) := by
  (focus
    refine Xg.spec_of Go.Proofs.Tryd.func17 rfl Go.Proofs.Tryd.ntmps17 fun g F => ?_)
  (focus
    refine Xg.at_seq ?_
    refine Xg.at_region ?_
    refine Xg.ops_op (by kernel_rfl) (Xg.opx_pure ((Value.int IntKind.i64 (0 : Int))) rfl (fun _ => by kernel_rfl) ?_)
    refine Xg.ops_nil ?_
    refine Xg.at_seq ?_
    refine Xg.at_seq ?_
    refine Xg.at_region ?_
    refine Xg.ops_op (by kernel_rfl) (Xg.opx_pure ((Value.int IntKind.i64 (↑n : Int))) rfl (fun _ => by kernel_rfl) ?_)
    refine Xg.ops_op (by kernel_rfl) (Xg.opx_pure (.bool (decide ((((↑n : Int)) : Int) < ((0 : Int))))) rfl (fun _ => by kernel_rfl) ?_)
    refine Xg.ops_op (by kernel_rfl) (Xg.opx_pure ((Value.bool (decide ((↑n : Int) < (0 : Int))))) rfl (fun _ => by kernel_rfl) ?_)
    refine Xg.ops_op (by kernel_rfl) (Xg.opx_pure ((Value.int IntKind.i64 (↑n : Int))) rfl (fun _ => by kernel_rfl) ?_)
    refine Xg.ops_op (by kernel_rfl) (Xg.opx_pure (.bool (decide ((((↑n : Int)) : Int) > ((1000000 : Int))))) rfl (fun _ => by kernel_rfl) ?_)
    refine Xg.ops_flag (j := 7) (c := (decide ((↑n : Int) < (0 : Int)))) (by kernel_rfl) (fun xh1 => absurd (of_decide_eq_true xh1) (by omega)) (fun _ => ?_)
    refine Xg.ops_op (by kernel_rfl) (Xg.opx_pure ((Value.bool (decide ((↑n : Int) > (1000000 : Int))))) rfl (fun _ => by kernel_rfl) ?_)
    refine Xg.ops_nil ?_
    refine Xg.at_false (t := decide (((↑n : Int) > (1000000 : Int)))) (by kernel_rfl) (decide_eq_false (by omega)) ?_
    refine Xg.at_skip ?_
    refine Xg.at_seq ?_
    refine Xg.at_seq ?_
    refine Xg.at_region ?_
    refine Xg.ops_op (by kernel_rfl) (Xg.opx_pure ((Value.int IntKind.i64 (↑n : Int))) rfl (fun _ => by kernel_rfl) ?_)
    refine Xg.ops_op (by kernel_rfl) (Xg.opx_pure ((Value.int IntKind.i64 (0 : Int))) rfl (fun _ => by kernel_rfl) ?_)
    refine Xg.ops_nil ?_
    refine Xg.at_block ?_)
  (focus
    refine Xg.at_rounds_inv (α := (Nat × Po × Option Addr × Nat × List Int) × (Nat → Value)) (fun x => (fun x => x.1 ≤ n ∧ (x.2.1, x.2.2.2.2) = clk x.1 (σ, xs)) x.1) (fun x => (fun x => n - x.1) x.1) (fun x => Xg.headT [Value.pointer (some (Addr.mk p (0 : Nat) none)), Value.int IntKind.i64 (↑n : Int), Value.tuple #[], Value.tuple #[], Value.int IntKind.i64 (0 : Int), Value.int IntKind.i64 (↑n : Int), Value.bool (decide ((↑n : Int) < (0 : Int))), Value.bool false, Value.int IntKind.i64 (↑n : Int), Value.bool (decide ((↑n : Int) > (1000000 : Int))), Value.bool (decide ((↑n : Int) > (1000000 : Int))), Value.int IntKind.i64 (↑n : Int), Value.int IntKind.i64 (0 : Int), Value.tuple #[], Value.tuple #[], Value.tuple #[], Value.tuple #[]] [13, 14, 15, 16] ((fun x => [(12, .int .i64 (x.1 : Nat))]) x.1) x.2) (fun x => (fun x => [PoS p x.2.1 x.2.2.1 x.2.2.2.1 x.2.2.2.2, bts x.2.2.1 x.2.2.2.1 x.2.2.2.2, (Drv te)]) x.1) (((0, σ, a, c, xs)), fun j => ([Value.pointer (some (Addr.mk p (0 : Nat) none)), Value.int IntKind.i64 (↑n : Int), Value.tuple #[], Value.tuple #[], Value.int IntKind.i64 (0 : Int), Value.int IntKind.i64 (↑n : Int), Value.bool (decide ((↑n : Int) < (0 : Int))), Value.bool false, Value.int IntKind.i64 (↑n : Int), Value.bool (decide ((↑n : Int) > (1000000 : Int))), Value.bool (decide ((↑n : Int) > (1000000 : Int))), Value.int IntKind.i64 (↑n : Int), Value.int IntKind.i64 (0 : Int), Value.tuple #[], Value.tuple #[], Value.tuple #[], Value.tuple #[]] : List Value).getD j undef) (by kernel_rfl) (by kernel_rfl) ?_ ?_)
  · exact ⟨Nat.zero_le _, rfl⟩
  rintro ⟨⟨i, σ', a', c', xs'⟩, J⟩ ⟨hi, he⟩ ih
  have hk := clk_ok (x := (σ, xs)) ⟨hσ, hl⟩ i
  rw [← he] at hk
  obtain ⟨hk1, hk2⟩ := hk
  dsimp only at hi he hk1 hk2
  (focus
    refine Xg.At.same (T' := [Value.pointer (some (Addr.mk p (0 : Nat) none)), Value.int IntKind.i64 (↑n : Int), Value.tuple #[], Value.tuple #[], Value.int IntKind.i64 (0 : Int), Value.int IntKind.i64 (↑n : Int), Value.bool (decide ((↑n : Int) < (0 : Int))), Value.bool false, Value.int IntKind.i64 (↑n : Int), Value.bool (decide ((↑n : Int) > (1000000 : Int))), Value.bool (decide ((↑n : Int) > (1000000 : Int))), Value.int IntKind.i64 (↑n : Int), Value.int IntKind.i64 (↑i : Int), ((i, σ', a', c', xs'), J).snd (13 : Nat), ((i, σ', a', c', xs'), J).snd (14 : Nat), ((i, σ', a', c', xs'), J).snd (15 : Nat), ((i, σ', a', c', xs'), J).snd (16 : Nat)]) (L' := [PoS p ((i, σ', a', c', xs'), J).fst.snd.fst ((i, σ', a', c', xs'), J).fst.snd.snd.fst ((i, σ', a', c', xs'), J).fst.snd.snd.snd.fst ((i, σ', a', c', xs'), J).fst.snd.snd.snd.snd, bts ((i, σ', a', c', xs'), J).fst.snd.snd.fst ((i, σ', a', c', xs'), J).fst.snd.snd.snd.fst ((i, σ', a', c', xs'), J).fst.snd.snd.snd.snd, (Drv te)]) (by kernel_rfl) rfl ?_)
  by_cases hlt : i < n
  · (focus
      refine Xg.at_seq ?_
      refine Xg.at_region ?_
      refine Xg.ops_op (by kernel_rfl) (Xg.opx_pure (.bool (decide ((((↑i : Int)) : Int) < ((↑n : Int))))) rfl (fun _ => by kernel_rfl) ?_)
      refine Xg.ops_nil ?_
      refine Xg.at_seq ?_
      refine Xg.at_true (t := decide (((↑i : Int) < (↑n : Int)))) (by kernel_rfl) (decide_eq_true (by omega)) ?_
      refine Xg.at_skip ?_
      refine Xg.at_seq ?_
      refine Xg.at_block ?_
      refine Xg.at_region ?_
      refine Xg.ops_op (by kernel_rfl) (Xg.opx_pure ((Value.pointer (some (Addr.mk p (0 : Nat) none)))) rfl (fun _ => by kernel_rfl) ?_)
      refine Xg.ops_op (by kernel_rfl) (Xg.opx_callE [0, 1, 2] (fun _ => by kernel_rfl) (@Go.Proofs.YtncdmccdclhokaaDoor.clock_d (te) (p) (σ') (by omega) (a') (c') (xs') (by omega)) (by kernel_rfl) (by kernel_rfl) fun xx1 xh1 => ?_)
      try dsimp only at xh1
      refine Xg.ops_nil ?_
      refine Xg.at_inBlock ?_
      refine Xg.at_region ?_
      refine Xg.ops_op (by kernel_rfl) (Xg.opx_int .i64 (IntKind.wrap .i64 (((↑i : Int) + (1 : Int)))) rfl (fun _ => by kernel_rfl) (Xg.wrap_i64_in (by omega)) ?_)
      refine Xg.ops_op (by kernel_rfl) (Xg.opx_pure ((Value.int IntKind.i64 ((↑i : Int) + (1 : Int)))) rfl (fun _ => by kernel_rfl) ?_)
      refine Xg.ops_nil ?_
      refine Xg.at_inLoop ?_)
    (focus
      refine Xg.at_keep [0, 1, 2] (by kernel_rfl) ?_
      refine Xg.At.same (by kernel_rfl) ?_ (ih (((i + 1, xx1.1, xx1.2.1, xx1.2.2, clockX σ' xs')), fun j => ([Value.pointer (some (Addr.mk p (0 : Nat) none)), Value.int IntKind.i64 (↑n : Int), Value.tuple #[], Value.tuple #[], Value.int IntKind.i64 (0 : Int), Value.int IntKind.i64 (↑n : Int), Value.bool (decide ((↑n : Int) < (0 : Int))), Value.bool false, Value.int IntKind.i64 (↑n : Int), Value.bool (decide ((↑n : Int) > (1000000 : Int))), Value.bool (decide ((↑n : Int) > (1000000 : Int))), Value.int IntKind.i64 (↑n : Int), Value.int IntKind.i64 ((↑i : Int) + (1 : Int)), Value.bool (decide ((↑i : Int) < (↑n : Int))), Value.pointer (some (Addr.mk p (0 : Nat) none)), Value.tuple #[], Value.int IntKind.i64 ((↑i : Int) + (1 : Int))] : List Value).getD j undef) ?_ ?_))
    · rfl
    · refine ⟨by dsimp only; omega, ?_⟩
      show (xx1.1, clockX σ' xs') = clk (i + 1) (σ, xs)
      rw [clk, ← he, xh1]
    · dsimp only; omega
  · (focus
      refine Xg.at_seq ?_
      refine Xg.at_region ?_
      refine Xg.ops_op (by kernel_rfl) (Xg.opx_pure (.bool (decide ((((↑i : Int)) : Int) < ((↑n : Int))))) rfl (fun _ => by kernel_rfl) ?_)
      refine Xg.ops_nil ?_
      refine Xg.at_seq ?_
      refine Xg.at_false (t := decide (((↑i : Int) < (↑n : Int)))) (by kernel_rfl) (decide_eq_false (by omega)) ?_
      refine Xg.at_exit rfl ?_
      refine Xg.at_seq ?_
      refine Xg.at_region ?_
      refine Xg.ops_op (by kernel_rfl) (Xg.opx_pure ((Value.int IntKind.i64 (0 : Int))) rfl (fun _ => by kernel_rfl) ?_)
      refine Xg.ops_nil ?_
      refine Xg.at_ret_ps (v := (Value.int IntKind.i64 (0 : Int))) [0, 1, 2] [PoS p σ' a' c' xs', bts a' c' xs', (Drv te)] Go.Proofs.Tryd.func17 (fun _ => by kernel_rfl) (by kernel_rfl) (by kernel_rfl) ?_
      refine ⟨((Po.mk σ'.buttons σ'.rows σ'.shift σ'.line σ'.counter σ'.timer σ'.again σ'.control σ'.requests σ'.alarm σ'.transfer σ'.sending, a', c', xs')), ?_, by kernel_rfl, by kernel_rfl⟩)
    obtain rfl : i = n := by omega
    exact he

end Go.Proofs.YtncdmccdclhokaaDoor
