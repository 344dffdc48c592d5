import Derived.Test.YtmplimmcjdkhlaaMStrangers11
/- The arena package: BinarySearchFunc. -/
namespace Go.Proofs.Ytmplimmcjdkhlaa
open Go.Sl Go.Xg
set_option linter.unusedVariables false
set_option linter.unusedSimpArgs false
set_option linter.unnecessarySimpa false
set_option maxHeartbeats 4000000
set_option maxRecDepth 100000

theorem order_g (x y : Int) (hx : 0 ≤ x ∧ x ≤ 1000000) (hy : 0 ≤ y ∧ y ≤ 1000000) : Does Try.prog 34 [.int .i64 x, .int .i64 y] [] (Ret (.int .i64 (x - y)) []) := by
  (focus
    refine Xg.spec_of Go.Proofs.Try.func34 rfl Go.Proofs.Try.ntmps34 fun g F => ?_)
  (focus
    refine Xg.at_seq ?_
    refine Xg.at_region ?_
    refine Xg.ops_op (by kernel_rfl) (Xg.opx_pure ((iv 0)) rfl (fun _ => by kernel_rfl) ?_)
    refine Xg.ops_nil ?_
    refine Xg.at_seq ?_
    refine Xg.at_region ?_
    refine Xg.ops_op (by kernel_rfl) (Xg.opx_pure ((iv x)) rfl (fun _ => by kernel_rfl) ?_)
    refine Xg.ops_op (by kernel_rfl) (Xg.opx_pure ((iv y)) rfl (fun _ => by kernel_rfl) ?_)
    refine Xg.ops_op (by kernel_rfl) (Xg.opx_int .i64 (IntKind.wrap .i64 ((x - y))) rfl (fun _ => by kernel_rfl) (Xg.wrap_i64_in (by omega)) ?_)
    refine Xg.ops_op (by kernel_rfl) (Xg.opx_pure ((iv (x - y))) rfl (fun _ => by kernel_rfl) ?_)
    refine Xg.ops_nil ?_
    refine Xg.at_ret_ps (v := (iv (x - y))) [] [] Go.Proofs.Try.func34 (fun _ => by kernel_rfl) (by kernel_rfl) (by kernel_rfl) ?_
    exact ⟨by kernel_rfl, by kernel_rfl⟩)
theorem bsG (a : Option Addr) (c : Nat) (l : List Int) (v : Int) (hs : ∀ i j, i ≤ j → j < l.length → l.getD i 0 ≤ l.getD j 0) (hb : ∀ i, i < l.length → 0 ≤ l.getD i 0 ∧ l.getD i 0 ≤ 1000000) (hv : 0 ≤ v ∧ v ≤ 1000000) (hl : l.length ≤ 100000) : Does Try.prog 64 [.slice a l.length c, .int .i64 v, fnO] [I2 a c l]
    (RetE (fun x : Nat × Bool => x.1 ≤ l.length ∧ (∀ j, j < x.1 → l.getD j 0 < v) ∧ ∀ j, x.1 ≤ j → j < l.length → v ≤ l.getD j 0) (fun x => .tuple #[.int .i64 (x.1 : Nat), .bool x.2]) (fun x => [I2 a c l])) := by
  have hE := enters_order
  (focus
    refine Xg.spec_of Go.Proofs.Try.func64 rfl Go.Proofs.Try.ntmps64 fun g F => ?_)
  (focus
    refine Xg.at_seq ?_
    refine Xg.at_region ?_
    refine Xg.ops_op (by kernel_rfl) (Xg.opx_pure ((iv 0)) rfl (fun _ => by kernel_rfl) ?_)
    refine Xg.ops_op (by kernel_rfl) (Xg.opx_pure ((Value.bool false)) rfl (fun _ => by kernel_rfl) ?_)
    refine Xg.ops_nil ?_
    refine Xg.at_seq ?_
    refine Xg.at_region ?_
    refine Xg.ops_op (by kernel_rfl) (Xg.opx_pure ((Value.slice a l.length c)) rfl (fun _ => by kernel_rfl) ?_)
    refine Xg.ops_op (by kernel_rfl) (Xg.opx_pure ((iv (↑l.length : Int))) rfl (fun _ => by kernel_rfl) ?_)
    refine Xg.ops_op (by kernel_rfl) (Xg.opx_pure ((iv (↑l.length : Int))) rfl (fun _ => by kernel_rfl) ?_)
    refine Xg.ops_nil ?_
    refine Xg.at_seq ?_
    refine Xg.at_region ?_
    refine Xg.ops_op (by kernel_rfl) (Xg.opx_pure ((iv (↑l.length : Int))) rfl (fun _ => by kernel_rfl) ?_)
    refine Xg.ops_op (by kernel_rfl) (Xg.opx_pure ((iv 0)) rfl (fun _ => by kernel_rfl) ?_)
    refine Xg.ops_op (by kernel_rfl) (Xg.opx_pure ((iv (↑l.length : Int))) rfl (fun _ => by kernel_rfl) ?_)
    refine Xg.ops_nil ?_
    refine Xg.at_seq ?_
    refine Xg.at_block ?_)
  (focus
    refine Xg.at_rounds_inv (α := (Nat × Nat) × (Nat → Value)) (fun x => ((fun x => x.1 ≤ x.2 ∧ x.2 ≤ l.length ∧ (∀ j, j < x.1 → l.getD j 0 < v) ∧ ∀ j, x.2 ≤ j → j < l.length → v ≤ l.getD j 0) : (Nat × Nat) → Prop) x.1) (fun x => ((fun x => x.2 - x.1) : (Nat × Nat) → Nat) x.1) (fun x => Xg.headT [Value.slice a l.length c, iv v, Value.func (Fn.func (34 : Nat)) #[] #[], tu, tu, tu, iv 0, Value.bool false, iv (↑l.length : Int), iv 0, iv (↑l.length : Int), tu, Value.slice a l.length c, iv (↑l.length : Int), iv (↑l.length : Int), tu, tu, tu, tu, tu, tu, tu, tu, tu, tu, tu, tu, tu, tu, tu, tu, tu, tu, tu, tu, tu, tu, tu, tu, tu, tu, tu, tu, tu, tu, tu, tu, tu, tu] [11, 15, 16, 17, 18, 19, 20, 21, 22, 23, 24, 25, 26, 27, 28, 29, 30, 31, 32, 33, 34] (((fun x => [(9, .int .i64 (x.1 : Nat)), (10, .int .i64 (x.2 : Nat))]) : (Nat × Nat) → List (Nat × Go.Value)) x.1) x.2) (fun x => ((fun x => [I2 a c l]) : (Nat × Nat) → List Go.Sl.HP) x.1) (((0, l.length)), fun j9 => ([Value.slice a l.length c, iv v, Value.func (Fn.func (34 : Nat)) #[] #[], tu, tu, tu, iv 0, Value.bool false, iv (↑l.length : Int), iv 0, iv (↑l.length : Int), tu, Value.slice a l.length c, iv (↑l.length : Int), iv (↑l.length : Int), tu, tu, tu, tu, tu, tu, tu, tu, tu, tu, tu, tu, tu, tu, tu, tu, tu, tu, tu, tu, tu, tu, tu, tu, tu, tu, tu, tu, tu, tu, tu, tu, tu, tu] : List Value).getD j9 undef) (by kernel_rfl) (by kernel_rfl) ?_ ?_)
  · exact ⟨Nat.zero_le _, Nat.le_refl _, fun j h => absurd h (Nat.not_lt_zero _), fun j h1 h2 => absurd h2 (Nat.not_lt.2 h1)⟩
  rintro ⟨⟨i, j⟩, J⟩ hI ih
  dsimp only at hI
  obtain ⟨hij, hjl, h1, h2⟩ := hI
  (focus
    refine Xg.At.same (T' := [Value.slice a l.length c, iv v, Value.func (Fn.func (34 : Nat)) #[] #[], tu, tu, tu, iv 0, Value.bool false, iv (↑l.length : Int), iv (↑i : Int), iv (↑j : Int), J 11, Value.slice a l.length c, iv (↑l.length : Int), iv (↑l.length : Int), J 15, J 16, J 17, J 18, J 19, J 20, J 21, J 22, J 23, J 24, J 25, J 26, J 27, J 28, J 29, J 30, J 31, J 32, J 33, J 34, tu, tu, tu, tu, tu, tu, tu, tu, tu, tu, tu, tu, tu, tu]) (L' := [I2 a c l]) (by kernel_rfl) rfl ?_)
  by_cases hlt : i < j
  · obtain ⟨h, hh⟩ : ∃ h : Nat, ((i : Int) + (j : Int)) / 2 = (h : Int) := ⟨(i + j) / 2, by omega⟩
    have hih : i ≤ h ∧ h < j := by omega
    (focus
      refine Xg.at_seq ?_
      refine Xg.at_seq ?_
      refine Xg.at_region ?_
      refine Xg.ops_op (by kernel_rfl) (Xg.opx_pure ((iv (↑i : Int))) rfl (fun _ => by kernel_rfl) ?_)
      refine Xg.ops_op (by kernel_rfl) (Xg.opx_pure ((iv (↑j : Int))) rfl (fun _ => by kernel_rfl) ?_)
      refine Xg.ops_op (by kernel_rfl) (Xg.opx_pure (.bool (decide ((((↑i : Int)) : Int) < ((↑j : Int))))) rfl (fun _ => by kernel_rfl) ?_)
      refine Xg.ops_nil ?_
      refine Xg.at_true (t := decide (((↑i : Int) < (↑j : Int)))) (by kernel_rfl) (decide_eq_true (by omega)) ?_
      refine Xg.at_skip ?_
      refine Xg.at_block ?_
      refine Xg.at_seq ?_
      refine Xg.at_region ?_
      refine Xg.ops_op (by kernel_rfl) (Xg.opx_pure ((iv (↑i : Int))) rfl (fun _ => by kernel_rfl) ?_)
      refine Xg.ops_op (by kernel_rfl) (Xg.opx_pure ((iv (↑j : Int))) rfl (fun _ => by kernel_rfl) ?_)
      refine Xg.ops_op (by kernel_rfl) (Xg.opx_int .i64 (IntKind.wrap .i64 (((↑i : Int) + (↑j : Int)))) rfl (fun _ => by kernel_rfl) (Xg.wrap_i64_in (by omega)) ?_)
      refine Xg.ops_op (by kernel_rfl) (Xg.opx_int .u64 (IntKind.wrap .u64 (((↑i : Int) + (↑j : Int)))) rfl (fun _ => by kernel_rfl) (Xg.wrap_u64_in (by omega)) ?_)
      refine Xg.ops_op (by kernel_rfl) (Xg.opx_int .u64 (Int.fdiv (((↑i : Int) + (↑j : Int))) 2) rfl (fun _ => by kernel_rfl) (Xg.shr_div _ 2 (by decide)) ?_)
      refine Xg.ops_op (by kernel_rfl) (Xg.opx_int .i64 (IntKind.wrap .i64 ((((↑i : Int) + (↑j : Int)) / (2 : Int)))) rfl (fun _ => by kernel_rfl) (Xg.wrap_i64_in (by omega)) ?_)
      refine Xg.ops_op (by kernel_rfl) (Xg.opx_pure ((iv (((↑i : Int) + (↑j : Int)) / (2 : Int)))) rfl (fun _ => by kernel_rfl) ?_)
      refine Xg.ops_nil ?_
      refine Xg.at_seq ?_
      refine Xg.at_region ?_
      refine Xg.ops_op (by kernel_rfl) (Xg.opx_pure ((Value.func (Fn.func (34 : Nat)) #[] #[])) rfl (fun _ => by kernel_rfl) ?_)
      refine Xg.ops_op (by kernel_rfl) (Xg.opx_pure ((Value.slice a l.length c)) rfl (fun _ => by kernel_rfl) ?_)
      refine Xg.ops_op (by kernel_rfl) (Xg.opx_pure ((iv (((↑i : Int) + (↑j : Int)) / (2 : Int)))) rfl (fun _ => by kernel_rfl) ?_)
      refine Xg.ops_op (by kernel_rfl) (Xg.opx_ix_own (elem := 3) (kd := .i64) (e := (((↑i : Int) + (↑j : Int)) / (2 : Int))) 0 1 ((((↑i : Int) + (↑j : Int)) / (2 : Int)).toNat) ((((↑i : Int) + (↑j : Int)) / (2 : Int)).toNat) rfl (by kernel_rfl) (by kernel_rfl) (by kernel_rfl) (by kernel_rfl) (by omega) (by omega) (by omega) ?_)
      refine Xg.ops_op (by kernel_rfl) (Xg.opx_load_own (a := a) (off := ((((↑i : Int) + (↑j : Int)) / (2 : Int)).toNat)) 0 (iv (l.getD (((↑i : Int) + (↑j : Int)) / (2 : Int)).toNat (0 : Int))) rfl (by kernel_rfl) (Xg.get_ints (by omega)) (by kernel_rfl) ?_)
      refine Xg.ops_op (by kernel_rfl) (Xg.opx_pure ((iv v)) rfl (fun _ => by kernel_rfl) ?_))
    rw [hh, Int.toNat_natCast]
    have ho := order_g (l.getD h 0) v (hb h (by omega)) hv
    refine Xg.ops_op (by kernel_rfl) (Xg.opx_call1' (args := [.int .i64 (l.getD h 0), .int .i64 v]) [] [I2 a c l] (fun w' => Eq.trans (b := Sem.run Try.prog (callFunc 34 #[.int .i64 (l.getD h 0), .int .i64 v]) w') (by kernel_rfl) (hE _ w')) ho (by kernel_rfl) rfl rfl ?_)
    by_cases hc : l.getD h 0 < v
    · (focus
        refine Xg.ops_op (by kernel_rfl) (Xg.opx_pure (.bool (decide (((l.getD h (0 : Int) - v) : Int) < ((0 : Int))))) rfl (fun _ => by kernel_rfl) ?_)
        refine Xg.ops_nil ?_
        refine Xg.at_true (t := decide ((l.getD h (0 : Int) - v < (0 : Int)))) (by kernel_rfl) (decide_eq_true (by omega)) ?_
        refine Xg.at_region ?_
        refine Xg.ops_op (by kernel_rfl) (Xg.opx_pure ((iv (↑h : Int))) rfl (fun _ => by kernel_rfl) ?_)
        refine Xg.ops_op (by kernel_rfl) (Xg.opx_int .i64 (IntKind.wrap .i64 (((↑h : Int) + (1 : Int)))) rfl (fun _ => by kernel_rfl) (Xg.wrap_i64_in (by omega)) ?_)
        refine Xg.ops_op (by kernel_rfl) (Xg.opx_pure ((iv ((↑h : Int) + (1 : Int)))) rfl (fun _ => by kernel_rfl) ?_)
        refine Xg.ops_nil ?_
        refine Xg.at_inBlock ?_
        refine Xg.at_inLoop ?_)
      (focus
        refine Xg.at_keep [0] (by kernel_rfl) ?_
        refine Xs.same ?_ (fun J9 => ih (((h + 1, j)), J9) ?_ ?_) (by kernel_rfl))
      · rfl
      · exact ⟨by dsimp only; omega, hjl, fun q hq => by
          dsimp only at hq
          have := hs q h (by omega) (by omega)
          omega, h2⟩
      · dsimp only; omega
    · (focus
        refine Xg.ops_op (by kernel_rfl) (Xg.opx_pure (.bool (decide (((l.getD h (0 : Int) - v) : Int) < ((0 : Int))))) rfl (fun _ => by kernel_rfl) ?_)
        refine Xg.ops_nil ?_
        refine Xg.at_false (t := decide ((l.getD h (0 : Int) - v < (0 : Int)))) (by kernel_rfl) (decide_eq_false (by omega)) ?_
        refine Xg.at_region ?_
        refine Xg.ops_op (by kernel_rfl) (Xg.opx_pure ((iv (↑h : Int))) rfl (fun _ => by kernel_rfl) ?_)
        refine Xg.ops_op (by kernel_rfl) (Xg.opx_pure ((iv (↑h : Int))) rfl (fun _ => by kernel_rfl) ?_)
        refine Xg.ops_nil ?_
        refine Xg.at_inBlock ?_
        refine Xg.at_inLoop ?_)
      (focus
        refine Xg.at_keep [0] (by kernel_rfl) ?_
        refine Xs.same ?_ (fun J9 => ih (((i, h)), J9) ?_ ?_) (by kernel_rfl))
      · rfl
      · exact ⟨by dsimp only; omega, by dsimp only; omega, h1, fun q hq hq2 => by
          dsimp only at hq
          have := hs h q (by omega) (by omega)
          omega⟩
      · dsimp only; omega
  · obtain rfl : i = j := by omega
    clear ih
    by_cases hn : i < l.length
    · (focus
        refine Xg.at_seq ?_
        refine Xg.at_seq ?_
        refine Xg.at_region ?_
        refine Xg.ops_op (by kernel_rfl) (Xg.opx_pure ((iv (↑i : Int))) rfl (fun _ => by kernel_rfl) ?_)
        refine Xg.ops_op (by kernel_rfl) (Xg.opx_pure ((iv (↑i : Int))) rfl (fun _ => by kernel_rfl) ?_)
        refine Xg.ops_op (by kernel_rfl) (Xg.opx_pure (.bool (decide ((((↑i : Int)) : Int) < ((↑i : Int))))) rfl (fun _ => by kernel_rfl) ?_)
        refine Xg.ops_nil ?_
        refine Xg.at_false (t := decide (((↑i : Int) < (↑i : Int)))) (by kernel_rfl) (decide_eq_false (by omega)) ?_
        refine Xg.at_exit rfl ?_
        refine Xg.at_seq ?_
        refine Xg.at_region ?_
        refine Xg.ops_op (by kernel_rfl) (Xg.opx_pure ((iv (↑i : Int))) rfl (fun _ => by kernel_rfl) ?_)
        refine Xg.ops_op (by kernel_rfl) (Xg.opx_pure ((iv (↑i : Int))) rfl (fun _ => by kernel_rfl) ?_)
        refine Xg.ops_op (by kernel_rfl) (Xg.opx_pure ((iv (↑l.length : Int))) rfl (fun _ => by kernel_rfl) ?_)
        refine Xg.ops_op (by kernel_rfl) (Xg.opx_pure (.bool (decide ((((↑i : Int)) : Int) < ((↑l.length : Int))))) rfl (fun _ => by kernel_rfl) ?_)
        refine Xg.ops_op (by kernel_rfl) (Xg.opx_pure ((Value.bool (decide ((↑i : Int) < (↑l.length : Int))))) rfl (fun _ => by kernel_rfl) ?_)
        refine Xg.ops_flag (j := 39) (c := (decide ((↑i : Int) < (↑l.length : Int)))) (by kernel_rfl) (fun _ => ?_) (fun xh1 => absurd (of_decide_eq_false xh1) (by omega))
        refine Xg.ops_op (by kernel_rfl) (Xg.opx_pure ((Value.func (Fn.func (34 : Nat)) #[] #[])) rfl (fun _ => by kernel_rfl) ?_)
        refine Xg.ops_op (by kernel_rfl) (Xg.opx_pure ((Value.slice a l.length c)) rfl (fun _ => by kernel_rfl) ?_)
        refine Xg.ops_op (by kernel_rfl) (Xg.opx_pure ((iv (↑i : Int))) rfl (fun _ => by kernel_rfl) ?_)
        refine Xg.ops_op (by kernel_rfl) (Xg.opx_ix_own (elem := 3) (kd := .i64) (e := ((↑i : Int))) 0 1 i i rfl (by kernel_rfl) (by kernel_rfl) (by kernel_rfl) (by kernel_rfl) rfl (by omega) (by omega) ?_)
        refine Xg.ops_op (by kernel_rfl) (Xg.opx_load_own (a := a) (off := i) 0 (iv (l.getD i (0 : Int))) rfl (by kernel_rfl) (Xg.get_ints (by omega)) (by kernel_rfl) ?_)
        refine Xg.ops_op (by kernel_rfl) (Xg.opx_pure ((iv v)) rfl (fun _ => by kernel_rfl) ?_))
      have ho := order_g (l.getD i 0) v (hb i hn) hv
      refine Xg.ops_op (by kernel_rfl) (Xg.opx_call1' (args := [.int .i64 (l.getD i 0), .int .i64 v]) [] [I2 a c l] (fun w' => Eq.trans (b := Sem.run Try.prog (callFunc 34 #[.int .i64 (l.getD i 0), .int .i64 v]) w') (by kernel_rfl) (hE _ w')) ho (by kernel_rfl) rfl rfl ?_)
      (focus
        refine Xg.ops_op (by kernel_rfl) (Xg.opx_pure (.bool (decide (((l.getD i (0 : Int) - v) : Int) = ((0 : Int))))) rfl (fun _ => by kernel_rfl) ?_)
        refine Xg.ops_flag (j := 47) (c := (decide (l.getD i (0 : Int) - v = (0 : Int)))) (by kernel_rfl) (fun xh1 => ?_) (fun xh1 => ?_)
        replace xh1 : (l.getD i (0 : Int) - v = (0 : Int)) := of_decide_eq_true xh1
        rotate_left
        replace xh1 : ¬ ((l.getD i (0 : Int) - v = (0 : Int))) := of_decide_eq_false xh1
        rotate_right
        refine Xg.ops_op (by kernel_rfl) (Xg.opx_pure ((Value.bool true)) rfl (fun _ => by kernel_rfl) ?_)
        refine Xg.ops_op (by kernel_rfl) (Xg.opx_pure ((iv (↑i : Int))) rfl (fun _ => by kernel_rfl) ?_)
        refine Xg.ops_op (by kernel_rfl) (Xg.opx_pure ((Value.bool true)) rfl (fun _ => by kernel_rfl) ?_)
        refine Xg.ops_nil ?_
        refine Xg.at_ret_ps (v := (Value.tuple #[iv (↑i : Int), Value.bool true])) [0] [I2 a c l] Go.Proofs.Try.func64 (fun _ => by kernel_rfl) (by kernel_rfl) (by kernel_rfl) ?_
        refine ⟨((i, true)), ?_, by kernel_rfl, by kernel_rfl⟩
        rotate_left
        refine Xg.ops_op (by kernel_rfl) (Xg.opx_pure ((Value.bool false)) rfl (fun _ => by kernel_rfl) ?_)
        refine Xg.ops_op (by kernel_rfl) (Xg.opx_pure ((iv (↑i : Int))) rfl (fun _ => by kernel_rfl) ?_)
        refine Xg.ops_op (by kernel_rfl) (Xg.opx_pure ((Value.bool false)) rfl (fun _ => by kernel_rfl) ?_)
        refine Xg.ops_nil ?_
        refine Xg.at_ret_ps (v := (Value.tuple #[iv (↑i : Int), Value.bool false])) [0] [I2 a c l] Go.Proofs.Try.func64 (fun _ => by kernel_rfl) (by kernel_rfl) (by kernel_rfl) ?_
        refine ⟨((i, false)), ?_, by kernel_rfl, by kernel_rfl⟩)
      all_goals exact ⟨hjl, h1, h2⟩
    · (focus
        refine Xg.at_seq ?_
        refine Xg.at_seq ?_
        refine Xg.at_region ?_
        refine Xg.ops_op (by kernel_rfl) (Xg.opx_pure ((iv (↑i : Int))) rfl (fun _ => by kernel_rfl) ?_)
        refine Xg.ops_op (by kernel_rfl) (Xg.opx_pure ((iv (↑i : Int))) rfl (fun _ => by kernel_rfl) ?_)
        refine Xg.ops_op (by kernel_rfl) (Xg.opx_pure (.bool (decide ((((↑i : Int)) : Int) < ((↑i : Int))))) rfl (fun _ => by kernel_rfl) ?_)
        refine Xg.ops_nil ?_
        refine Xg.at_false (t := decide (((↑i : Int) < (↑i : Int)))) (by kernel_rfl) (decide_eq_false (by omega)) ?_
        refine Xg.at_exit rfl ?_
        refine Xg.at_seq ?_
        refine Xg.at_region ?_
        refine Xg.ops_op (by kernel_rfl) (Xg.opx_pure ((iv (↑i : Int))) rfl (fun _ => by kernel_rfl) ?_)
        refine Xg.ops_op (by kernel_rfl) (Xg.opx_pure ((iv (↑i : Int))) rfl (fun _ => by kernel_rfl) ?_)
        refine Xg.ops_op (by kernel_rfl) (Xg.opx_pure ((iv (↑l.length : Int))) rfl (fun _ => by kernel_rfl) ?_)
        refine Xg.ops_op (by kernel_rfl) (Xg.opx_pure (.bool (decide ((((↑i : Int)) : Int) < ((↑l.length : Int))))) rfl (fun _ => by kernel_rfl) ?_)
        refine Xg.ops_op (by kernel_rfl) (Xg.opx_pure ((Value.bool (decide ((↑i : Int) < (↑l.length : Int))))) rfl (fun _ => by kernel_rfl) ?_)
        refine Xg.ops_flag (j := 39) (c := (decide ((↑i : Int) < (↑l.length : Int)))) (by kernel_rfl) (fun xh1 => absurd (of_decide_eq_true xh1) (by omega)) (fun _ => ?_)
        refine Xg.ops_skip (by kernel_rfl) ?_
        refine Xg.ops_skip (by kernel_rfl) ?_
        refine Xg.ops_skip (by kernel_rfl) ?_
        refine Xg.ops_skip (by kernel_rfl) ?_
        refine Xg.ops_skip (by kernel_rfl) ?_
        refine Xg.ops_skip (by kernel_rfl) ?_
        refine Xg.ops_skip (by kernel_rfl) ?_
        refine Xg.ops_skip (by kernel_rfl) ?_
        refine Xg.ops_op (by kernel_rfl) (Xg.opx_pure ((Value.bool false)) rfl (fun _ => by kernel_rfl) ?_)
        refine Xg.ops_op (by kernel_rfl) (Xg.opx_pure ((iv (↑i : Int))) rfl (fun _ => by kernel_rfl) ?_)
        refine Xg.ops_op (by kernel_rfl) (Xg.opx_pure ((Value.bool false)) rfl (fun _ => by kernel_rfl) ?_)
        refine Xg.ops_nil ?_
        refine Xg.at_ret_ps (v := (Value.tuple #[iv (↑i : Int), Value.bool false])) [0] [I2 a c l] Go.Proofs.Try.func64 (fun _ => by kernel_rfl) (by kernel_rfl) (by kernel_rfl) ?_
        refine ⟨((i, false)), ?_, by kernel_rfl, by kernel_rfl⟩)
      exact ⟨hjl, h1, h2⟩
end Go.Proofs.Ytmplimmcjdkhlaa
