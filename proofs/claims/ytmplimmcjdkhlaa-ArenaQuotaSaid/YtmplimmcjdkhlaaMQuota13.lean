import Derived.Test.YtmplimmcjdkhlaaMQuota12
/- The arena law: ArenaQuota, the walk. -/
namespace Go.Proofs.Ytmplimmcjdkhlaa
open Go.Sl Go.Xg
set_option linter.unusedVariables false
set_option linter.unusedSimpArgs false
set_option linter.unnecessarySimpa false
set_option maxHeartbeats 4000000
set_option maxRecDepth 100000

set_option maxHeartbeats 0 in
theorem pquota_d (A : HP) (size : Int) (hsz : i64ok size) (many : Int) (hmn : i64ok many) (quota : Int) (hqu : i64ok quota) :
    Does Try.prog 6 [.int .i64 size, .int .i64 many, .int .i64 quota] [A] (Ret (.bool true) [A]) := by
  have hp50 := pick_d size 50 hsz (by decide)
  have hp400 := pick_d quota 400 hqu (by decide)
  (focus
    refine Xg.spec_of Go.Proofs.Try.func6 rfl Go.Proofs.Try.ntmps6 fun g F => ?_)
  (focus
    refine Xg.at_seq ?_
    refine Xg.at_region ?_
    refine Xg.ops_op (by kernel_rfl) (Xg.opx_pure ((Value.bool false)) rfl (fun _ => by kernel_rfl) ?_)
    refine Xg.ops_nil ?_
    refine Xg.at_seq ?_
    refine Xg.at_region ?_
    refine Xg.ops_op (by kernel_rfl) (Xg.opx_pure ((iv size)) rfl (fun _ => by kernel_rfl) ?_)
    refine Xg.ops_op (by kernel_rfl) (Xg.opx_callE' [] (fun xx1 => [A]) (fun _ => by kernel_rfl) (@hp50 ) (by kernel_rfl) (by kernel_rfl) (by kernel_rfl) fun xx1 xh1 => ?_)
    try dsimp only at xh1
    obtain ⟨xh1_0, xh1_1⟩ := xh1
    refine Xg.ops_op (by kernel_rfl) (Xg.opx_int .i64 (IntKind.wrap .i64 (((1 : Int) + (↑xx1 : Int)))) rfl (fun _ => by kernel_rfl) (Xg.wrap_i64_in (by omega)) ?_)
    refine Xg.ops_op (by kernel_rfl) (Xg.opx_pure ((iv ((1 : Int) + (↑xx1 : Int)))) rfl (fun _ => by kernel_rfl) ?_)
    refine Xg.ops_nil ?_
    refine Xg.at_seq ?_)
  obtain ⟨N, hN⟩ : ∃ N : Nat, 1 + xx1 = N := ⟨_, rfl⟩
  rw [show (1 : Int) + (xx1 : Int) = (N : Int) from by omega]
  (focus
    refine Xg.at_region ?_
    refine Xg.ops_op (by kernel_rfl) (Xg.opx_pure ((iv quota)) rfl (fun _ => by kernel_rfl) ?_)
    refine Xg.ops_op (by kernel_rfl) (Xg.opx_callE' [] (fun xx2 => [A]) (fun _ => by kernel_rfl) (@hp400 ) (by kernel_rfl) (by kernel_rfl) (by kernel_rfl) fun xx2 xh2 => ?_)
    try dsimp only at xh2
    obtain ⟨xh2_0, xh2_1⟩ := xh2
    refine Xg.ops_op (by kernel_rfl) (Xg.opx_pure ((iv (↑xx2 : Int))) rfl (fun _ => by kernel_rfl) ?_)
    refine Xg.ops_nil ?_
    refine Xg.at_seq ?_)
  have hn := fun b => newQ N b (by omega) (by omega)
  have ho : ∀ p, Does Try.prog 16 [.pointer (some ⟨p, 0, none⟩), .int .i64 (xx2 : Nat)] [PoolS p (newσ (ksQ N) 2)] (Ret (.tuple #[.int .i64 0, .int .i64 0]) [PoolS p (openσ (newσ (ksQ N) 2) 0 (xx2 : Nat))]) := fun p =>
    openS p (newσ (ksQ N) 2) (show 2 ≤ 64 by decide) 0 (show 0 < 2 by decide) rfl (fun j hj => by omega) _ (by omega)
  have hs := QJ.start N (xx2 : Nat) (by omega) (by omega) (by omega)
  (focus
    refine Xg.at_region ?_
    refine Xg.ops_op (by kernel_rfl) (Xg.opx_pure ((iv (↑N : Int))) rfl (fun _ => by kernel_rfl) ?_)
    refine Xg.ops_op (by kernel_rfl) (Xg.opx_pure ((Value.agg #[iv (↑N : Int), iv 500])) rfl (fun _ => by kernel_rfl) ?_)
    refine Xg.ops_op (by kernel_rfl) (Xg.opx_bs (elem := 32) 2 [Value.agg #[iv (↑N : Int), iv 500]] [iv (↑N : Int), iv 500] (by kernel_rfl) (by kernel_rfl) (by decide) rfl (by kernel_rfl) (by kernel_rfl) (by kernel_rfl) (by kernel_rfl) fun xb1 => ?_)
    refine Xg.ops_op (by kernel_rfl) (Xg.opx_pure ((Value.agg #[Value.slice (some (Addr.mk xb1 (0 : Nat) none)) (1 : Nat) (1 : Nat), iv 2])) rfl (fun _ => by kernel_rfl) ?_)
    refine Xg.ops_op (by kernel_rfl) (Xg.opx_callE' [0] (fun xx3 => [PoolS xx3 (newσ (ksQ N) (2 : Nat)), row xb1 (32 : TypeId) [iv (↑N : Int), iv 500], A]) (fun _ => by kernel_rfl) (@hn (xb1)) (by kernel_rfl) (by kernel_rfl) (by kernel_rfl) fun xx3 xh3 => ?_)
    try dsimp only at xh3
    refine Xg.ops_op (by kernel_rfl) (Xg.opx_pure ((Value.tuple #[pv xx3 0, iv 0])) rfl (fun _ => by kernel_rfl) ?_)
    refine Xg.ops_op (by kernel_rfl) (Xg.opx_pure ((pv xx3 0)) rfl (fun _ => by kernel_rfl) ?_)
    refine Xg.ops_op (by kernel_rfl) (Xg.opx_pure ((iv 0)) rfl (fun _ => by kernel_rfl) ?_)
    refine Xg.ops_op (by kernel_rfl) (Xg.opx_pure ((pv xx3 0)) rfl (fun _ => by kernel_rfl) ?_)
    refine Xg.ops_op (by kernel_rfl) (Xg.opx_pure ((iv 0)) rfl (fun _ => by kernel_rfl) ?_)
    refine Xg.ops_nil ?_
    refine Xg.at_seq ?_
    refine Xg.at_seq ?_
    refine Xg.at_region ?_
    refine Xg.ops_op (by kernel_rfl) (Xg.opx_pure ((pv xx3 0)) rfl (fun _ => by kernel_rfl) ?_)
    refine Xg.ops_op (by kernel_rfl) (Xg.opx_pure ((Value.bool false)) rfl (fun _ => by kernel_rfl) ?_)
    refine Xg.ops_op (by kernel_rfl) (Xg.opx_pure ((Value.bool false)) rfl (fun _ => by kernel_rfl) ?_)
    refine Xg.ops_op (by kernel_rfl) (Xg.opx_pure ((iv 0)) rfl (fun _ => by kernel_rfl) ?_)
    refine Xg.ops_op (by kernel_rfl) (Xg.opx_pure ((Value.bool false)) rfl (fun _ => by kernel_rfl) ?_)
    refine Xg.ops_op (by kernel_rfl) (Xg.opx_pure ((Value.bool false)) rfl (fun _ => by kernel_rfl) ?_)
    refine Xg.ops_nil ?_
    refine Xg.at_false (t := false) (by kernel_rfl) rfl ?_
    refine Xg.at_skip ?_
    refine Xg.at_seq ?_
    refine Xg.at_region ?_
    refine Xg.ops_op (by kernel_rfl) (Xg.opx_pure ((pv xx3 0)) rfl (fun _ => by kernel_rfl) ?_)
    refine Xg.ops_op (by kernel_rfl) (Xg.opx_pure ((iv (↑xx2 : Int))) rfl (fun _ => by kernel_rfl) ?_)
    refine Xg.ops_op (by kernel_rfl) (Xg.opx_call1' [0] [PoolS xx3 (openσ (newσ (ksQ N) (2 : Nat)) (0 : Nat) (↑xx2 : Int)), row xb1 (32 : TypeId) [iv (↑N : Int), iv 500], A] (fun _ => by kernel_rfl) (@ho (xx3)) (by kernel_rfl) (by kernel_rfl) (by kernel_rfl) ?_)
    refine Xg.ops_op (by kernel_rfl) (Xg.opx_pure ((Value.tuple #[iv 0, iv 0])) rfl (fun _ => by kernel_rfl) ?_)
    refine Xg.ops_op (by kernel_rfl) (Xg.opx_pure ((iv 0)) rfl (fun _ => by kernel_rfl) ?_)
    refine Xg.ops_op (by kernel_rfl) (Xg.opx_pure ((iv 0)) rfl (fun _ => by kernel_rfl) ?_)
    refine Xg.ops_op (by kernel_rfl) (Xg.opx_pure ((iv 0)) rfl (fun _ => by kernel_rfl) ?_)
    refine Xg.ops_op (by kernel_rfl) (Xg.opx_pure ((iv 0)) rfl (fun _ => by kernel_rfl) ?_)
    refine Xg.ops_nil ?_
    refine Xg.at_seq ?_
    refine Xg.at_seq ?_
    refine Xg.at_region ?_
    refine Xg.ops_op (by kernel_rfl) (Xg.opx_pure ((iv 0)) rfl (fun _ => by kernel_rfl) ?_)
    refine Xg.ops_op (by kernel_rfl) (Xg.opx_pure ((Value.bool false)) rfl (fun _ => by kernel_rfl) ?_)
    refine Xg.ops_nil ?_
    refine Xg.at_false (t := false) (by kernel_rfl) rfl ?_
    refine Xg.at_skip ?_
    refine Xg.at_seq ?_
    refine Xg.at_seq ?_
    refine Xg.at_region ?_
    refine Xg.ops_op (by kernel_rfl) (Xg.opx_pure ((iv 0)) rfl (fun _ => by kernel_rfl) ?_)
    refine Xg.ops_nil ?_
    refine Xg.at_block ?_)
  obtain ⟨σ0, hσ0⟩ : ∃ σ, openσ (newσ (ksQ N) 2) 0 (xx2 : Nat) = σ := ⟨_, rfl⟩
  rw [hσ0] at hs ⊢
  clear hn ho hp50 hp400 hσ0
  obtain ⟨D, hD⟩ : ∃ D : Nat, xx2 / N = D := ⟨_, rfl⟩
  have hN1 : 1 ≤ N := by omega
  have hD1 : D * N ≤ xx2 := by rw [← hD]; exact Nat.div_mul_le_self _ _
  have hD2 : xx2 < (D + 1) * N := by exact (Nat.div_lt_iff_lt_mul (by omega)).1 (by omega)
  have hD3 : D ≤ xx2 := by rw [← hD]; exact Nat.div_le_self _ _
  have hDz : (xx2 : Int) / (N : Int) = (D : Int) := by rw [← hD]; exact (Int.natCast_ediv xx2 N).symm
  have hDm : (xx2 : Int) / (N : Int) * (N : Int) = ((D * N : Nat) : Int) := by rw [hDz]; exact (Int.natCast_mul D N).symm
  (focus
    refine Xg.at_keep [0, 2] (by kernel_rfl) ?_
    refine Xg.at_rounds_inv (α := (Nat × Po) × (Nat → Value)) (fun x => ((fun x => x.1 ≤ D ∧ QJ N (xx2 : Nat) x.1 x.2) : (Nat × Po) → Prop) x.1) (fun x => ((fun x => D - x.1) : (Nat × Po) → Nat) x.1) (fun x => Xg.headT [iv size, iv many, iv quota, tu, tu, tu, Value.bool false, iv (↑N : Int), iv (↑xx2 : Int), pv xx3 0, iv 0, iv 0, iv 0, iv 0, tu, tu, tu, tu, iv size, iv (↑xx1 : Int), iv (↑N : Int), iv quota, iv (↑xx2 : Int), Value.tuple #[pv xx3 0, iv 0], iv (↑N : Int), Value.agg #[iv (↑N : Int), iv 500], Value.slice (some (Addr.mk xb1 (0 : Nat) none)) (1 : Nat) (1 : Nat), Value.agg #[Value.slice (some (Addr.mk xb1 (0 : Nat) none)) (1 : Nat) (1 : Nat), iv 2], Value.tuple #[pv xx3 0, iv 0], pv xx3 0, iv 0, pv xx3 0, Value.bool false, Value.bool false, iv 0, Value.bool false, Value.bool false, Value.tuple #[iv 0, iv 0], pv xx3 0, iv (↑xx2 : Int), Value.tuple #[iv 0, iv 0], iv 0, iv 0, iv 0, Value.bool false, tu, tu, tu, tu, tu, tu, tu, tu, tu, tu, tu, tu, tu, tu, tu, tu, tu, tu, tu, tu, tu, tu, tu, tu, tu, tu, tu, tu, tu, tu, tu, tu, tu, tu, tu, tu, tu, tu, tu, tu, tu, tu, tu, tu, tu, tu, tu, tu, tu, tu, tu, tu, tu, tu, tu, tu, tu, tu, tu, tu, tu, tu, tu, tu, tu, tu, tu, tu, tu, tu, tu, tu, tu, tu, tu, tu, tu, tu, tu, tu, tu, tu, tu, tu, tu, tu, tu, tu, tu, tu, tu, tu, tu, tu] [6, 10, 45, 46, 47, 48, 49, 50, 51, 52, 53, 54, 55, 56, 57, 58, 59, 60, 61, 62, 63, 64] (((fun x => [(13, .int .i64 (x.1 : Nat))]) : (Nat × Po) → List (Nat × Go.Value)) x.1) x.2) (fun x => ((fun x => [PoolS xx3 x.2, A]) : (Nat × Po) → List Go.Sl.HP) x.1) (((0, σ0)), fun j9 => ([iv size, iv many, iv quota, tu, tu, tu, Value.bool false, iv (↑N : Int), iv (↑xx2 : Int), pv xx3 0, iv 0, iv 0, iv 0, iv 0, tu, tu, tu, tu, iv size, iv (↑xx1 : Int), iv (↑N : Int), iv quota, iv (↑xx2 : Int), Value.tuple #[pv xx3 0, iv 0], iv (↑N : Int), Value.agg #[iv (↑N : Int), iv 500], Value.slice (some (Addr.mk xb1 (0 : Nat) none)) (1 : Nat) (1 : Nat), Value.agg #[Value.slice (some (Addr.mk xb1 (0 : Nat) none)) (1 : Nat) (1 : Nat), iv 2], Value.tuple #[pv xx3 0, iv 0], pv xx3 0, iv 0, pv xx3 0, Value.bool false, Value.bool false, iv 0, Value.bool false, Value.bool false, Value.tuple #[iv 0, iv 0], pv xx3 0, iv (↑xx2 : Int), Value.tuple #[iv 0, iv 0], iv 0, iv 0, iv 0, Value.bool false, tu, tu, tu, tu, tu, tu, tu, tu, tu, tu, tu, tu, tu, tu, tu, tu, tu, tu, tu, tu, tu, tu, tu, tu, tu, tu, tu, tu, tu, tu, tu, tu, tu, tu, tu, tu, tu, tu, tu, tu, tu, tu, tu, tu, tu, tu, tu, tu, tu, tu, tu, tu, tu, tu, tu, tu, tu, tu, tu, tu, tu, tu, tu, tu, tu, tu, tu, tu, tu, tu, tu, tu, tu, tu, tu, tu, tu, tu, tu, tu, tu, tu, tu, tu, tu, tu, tu, tu, tu, tu, tu, tu, tu, tu] : List Value).getD j9 undef) (by kernel_rfl) (by kernel_rfl) ?_ ?_)
  · exact ⟨Nat.zero_le _, hs⟩
  rintro ⟨⟨i, σ⟩, J⟩ hi ih
  obtain ⟨hi, hJ⟩ := hi
  dsimp only at hi hJ
  (focus
    refine Xg.At.same (T' := [iv size, iv many, iv quota, tu, tu, tu, J 6, iv (↑N : Int), iv (↑xx2 : Int), pv xx3 0, J 10, iv 0, iv 0, iv (↑i : Int), tu, tu, tu, tu, iv size, iv (↑xx1 : Int), iv (↑N : Int), iv quota, iv (↑xx2 : Int), Value.tuple #[pv xx3 0, iv 0], iv (↑N : Int), Value.agg #[iv (↑N : Int), iv 500], Value.slice (some (Addr.mk xb1 (0 : Nat) none)) (1 : Nat) (1 : Nat), Value.agg #[Value.slice (some (Addr.mk xb1 (0 : Nat) none)) (1 : Nat) (1 : Nat), iv 2], Value.tuple #[pv xx3 0, iv 0], pv xx3 0, iv 0, pv xx3 0, Value.bool false, Value.bool false, iv 0, Value.bool false, Value.bool false, Value.tuple #[iv 0, iv 0], pv xx3 0, iv (↑xx2 : Int), Value.tuple #[iv 0, iv 0], iv 0, iv 0, iv 0, Value.bool false, J 45, J 46, J 47, J 48, J 49, J 50, J 51, J 52, J 53, J 54, J 55, J 56, J 57, J 58, J 59, J 60, J 61, J 62, J 63, J 64, tu, tu, tu, tu, tu, tu, tu, tu, tu, tu, tu, tu, tu, tu, tu, tu, tu, tu, tu, tu, tu, tu, tu, tu, tu, tu, tu, tu, tu, tu, tu, tu, tu, tu, tu, tu, tu, tu, tu, tu, tu, tu, tu, tu, tu, tu, tu, tu, tu, tu, tu, tu, tu, tu, tu, tu, tu, tu, tu, tu, tu, tu, tu, tu, tu, tu, tu, tu, tu, tu, tu, tu, tu, tu]) (L' := [PoolS xx3 ((i, σ), J).fst.snd, A]) (by kernel_rfl) rfl ?_)
  have hpm : Does Try.prog 13 [.int .i64 many, .int .i64 (N : Nat)] [] (Ret (.int .i64 (pickN many N : Nat)) []) := (pick_d many N hmn (by omega)).mono fun v ps ⟨x, ⟨hx, _⟩, e1, e2⟩ => ⟨by rw [e1, hx], e2⟩
  by_cases hlt : i < D
  · have hle : (i + 1) * N ≤ D * N := Nat.mul_le_mul_right _ hlt
    have ht : ∀ s : Int, 1 ≤ s ∧ s ≤ N → ∃ τ v, QJ N (xx2 : Nat) (i + 1) τ ∧ ∀ p, Does Try.prog 17 [.pointer (some ⟨p, 0, none⟩), .int .i64 0, .int .i64 s, .int .i64 (i : Nat)] [PoolS p σ]
        (Ret (.tuple #[.agg #[.int .i64 (v : Nat), .int .i64 0, .int .i64 (N : Nat)], .int .i64 0]) [PoolS p τ]) := fun s hs => hJ.take (by omega) (by omega) (i : Nat) (by unfold i64ok; omega) s hs
    have h5 : 1 ≤ (1 : Int) + (pickN many N : Nat) ∧ (1 : Int) + (pickN many N : Nat) ≤ N := by have := pickN_lt many N (by omega); omega
    obtain ⟨τ, v, hτ, ht⟩ := ht (1 + (pickN many N : Nat)) h5
    have h6 := pickN_lt many N (by omega)
    (focus
      refine Xg.at_seq ?_
      refine Xg.at_seq ?_
      refine Xg.at_region ?_
      refine Xg.ops_op (by kernel_rfl) (Xg.opx_pure ((iv (↑i : Int))) rfl (fun _ => by kernel_rfl) ?_)
      refine Xg.ops_op (by kernel_rfl) (Xg.opx_pure ((iv (↑xx2 : Int))) rfl (fun _ => by kernel_rfl) ?_)
      refine Xg.ops_op (by kernel_rfl) (Xg.opx_pure ((iv (↑N : Int))) rfl (fun _ => by kernel_rfl) ?_)
      refine Xg.ops_op (by kernel_rfl) (Xg.opx_run (.int .i64 (((↑xx2 : Int)) / ((↑N : Int)))) rfl (fun _ => Xg.run_quo (m := ((↑xx2 : Int))) (e := ((↑N : Int))) (by kernel_rfl) (by kernel_rfl) (by omega) (by omega)) ?_)
      refine Xg.ops_op (by kernel_rfl) (Xg.opx_pure (.bool (decide ((((↑i : Int)) : Int) < ((↑xx2 : Int) / (↑N : Int))))) rfl (fun _ => by kernel_rfl) ?_)
      refine Xg.ops_nil ?_
      refine Xg.at_true (t := decide (((↑i : Int) < (↑xx2 : Int) / (↑N : Int)))) (by kernel_rfl) (decide_eq_true (by omega)) ?_
      refine Xg.at_skip ?_
      refine Xg.at_seq ?_
      refine Xg.at_block ?_
      refine Xg.at_seq ?_
      refine Xg.at_region ?_
      refine Xg.ops_op (by kernel_rfl) (Xg.opx_pure ((pv xx3 0)) rfl (fun _ => by kernel_rfl) ?_)
      refine Xg.ops_op (by kernel_rfl) (Xg.opx_pure ((iv 0)) rfl (fun _ => by kernel_rfl) ?_)
      refine Xg.ops_op (by kernel_rfl) (Xg.opx_pure ((iv many)) rfl (fun _ => by kernel_rfl) ?_)
      refine Xg.ops_op (by kernel_rfl) (Xg.opx_pure ((iv (↑N : Int))) rfl (fun _ => by kernel_rfl) ?_)
      refine Xg.ops_op (by kernel_rfl) (Xg.opx_call1' [] [PoolS xx3 σ, A] (fun _ => by kernel_rfl) (@hpm ) (by kernel_rfl) (by kernel_rfl) (by kernel_rfl) ?_)
      refine Xg.ops_op (by kernel_rfl) (Xg.opx_int .i64 (IntKind.wrap .i64 (((1 : Int) + (↑(pickN many N) : Int)))) rfl (fun _ => by kernel_rfl) (Xg.wrap_i64_in (by omega)) ?_)
      refine Xg.ops_op (by kernel_rfl) (Xg.opx_pure ((iv (↑i : Int))) rfl (fun _ => by kernel_rfl) ?_)
      refine Xg.ops_op (by kernel_rfl) (Xg.opx_call1' [0] [PoolS xx3 τ, A] (fun _ => by kernel_rfl) (@ht (xx3)) (by kernel_rfl) (by kernel_rfl) (by kernel_rfl) ?_)
      refine Xg.ops_op (by kernel_rfl) (Xg.opx_pure ((Value.tuple #[Value.agg #[iv (↑v : Int), iv 0, iv (↑N : Int)], iv 0])) rfl (fun _ => by kernel_rfl) ?_)
      refine Xg.ops_op (by kernel_rfl) (Xg.opx_pure ((Value.agg #[iv (↑v : Int), iv 0, iv (↑N : Int)])) rfl (fun _ => by kernel_rfl) ?_)
      refine Xg.ops_op (by kernel_rfl) (Xg.opx_pure ((iv 0)) rfl (fun _ => by kernel_rfl) ?_)
      refine Xg.ops_op (by kernel_rfl) (Xg.opx_pure ((iv 0)) rfl (fun _ => by kernel_rfl) ?_)
      refine Xg.ops_nil ?_
      refine Xg.at_seq ?_
      refine Xg.at_region ?_
      refine Xg.ops_op (by kernel_rfl) (Xg.opx_pure ((iv 0)) rfl (fun _ => by kernel_rfl) ?_)
      refine Xg.ops_op (by kernel_rfl) (Xg.opx_pure ((Value.bool false)) rfl (fun _ => by kernel_rfl) ?_)
      refine Xg.ops_nil ?_
      refine Xg.at_false (t := false) (by kernel_rfl) rfl ?_
      refine Xg.at_skip ?_
      refine Xg.at_inBlock ?_
      refine Xg.at_region ?_
      refine Xg.ops_op (by kernel_rfl) (Xg.opx_pure ((iv (↑i : Int))) rfl (fun _ => by kernel_rfl) ?_)
      refine Xg.ops_op (by kernel_rfl) (Xg.opx_int .i64 (IntKind.wrap .i64 (((↑i : Int) + (1 : Int)))) rfl (fun _ => by kernel_rfl) (Xg.wrap_i64_in (by omega)) ?_)
      refine Xg.ops_op (by kernel_rfl) (Xg.opx_pure ((iv ((↑i : Int) + (1 : Int)))) rfl (fun _ => by kernel_rfl) ?_)
      refine Xg.ops_nil ?_
      refine Xg.at_inLoop ?_)
    (focus
      refine Xg.at_keep [0, 1] (by kernel_rfl) ?_
      refine Xs.same ?_ (fun J9 => ih (((i + 1, τ)), J9) ?_ ?_) (by kernel_rfl))
    · rfl
    · exact ⟨hlt, hτ⟩
    · dsimp only; omega
  · obtain rfl : i = D := by omega
    clear ih hpm
    have hf := hJ.full (by omega) 0 1 (by omega)
    have hu := hJ.used
    obtain ⟨l, hl1, hl2, hl3⟩ := hJ.leases
    by_cases h0 : i = 0
    · subst h0
      (focus
        refine Xg.at_seq ?_
        refine Xg.at_seq ?_
        refine Xg.at_region ?_
        refine Xg.ops_op (by kernel_rfl) (Xg.opx_pure ((iv 0)) rfl (fun _ => by kernel_rfl) ?_)
        refine Xg.ops_op (by kernel_rfl) (Xg.opx_pure ((iv (↑xx2 : Int))) rfl (fun _ => by kernel_rfl) ?_)
        refine Xg.ops_op (by kernel_rfl) (Xg.opx_pure ((iv (↑N : Int))) rfl (fun _ => by kernel_rfl) ?_)
        refine Xg.ops_op (by kernel_rfl) (Xg.opx_run (.int .i64 (((↑xx2 : Int)) / ((↑N : Int)))) rfl (fun _ => Xg.run_quo (m := ((↑xx2 : Int))) (e := ((↑N : Int))) (by kernel_rfl) (by kernel_rfl) (by omega) (by omega)) ?_)
        refine Xg.ops_op (by kernel_rfl) (Xg.opx_pure (.bool (decide ((((0 : Int)) : Int) < ((↑xx2 : Int) / (↑N : Int))))) rfl (fun _ => by kernel_rfl) ?_)
        refine Xg.ops_nil ?_
        refine Xg.at_false (t := decide (((0 : Int) < (↑xx2 : Int) / (↑N : Int)))) (by kernel_rfl) (decide_eq_false (by omega)) ?_
        refine Xg.at_exit rfl ?_
        refine Xg.at_seq ?_
        refine Xg.at_region ?_
        refine Xg.ops_op (by kernel_rfl) (Xg.opx_pure ((pv xx3 0)) rfl (fun _ => by kernel_rfl) ?_)
        refine Xg.ops_op (by kernel_rfl) (Xg.opx_pure ((iv 0)) rfl (fun _ => by kernel_rfl) ?_)
        refine Xg.ops_op (by kernel_rfl) (Xg.opx_call1' [0] [PoolS xx3 σ, A] (fun _ => by kernel_rfl) (@hf (xx3)) (by kernel_rfl) (by kernel_rfl) (by kernel_rfl) ?_)
        refine Xg.ops_op (by kernel_rfl) (Xg.opx_pure ((Value.tuple #[Value.agg #[iv 0, iv 0, iv 0], iv 92])) rfl (fun _ => by kernel_rfl) ?_)
        refine Xg.ops_op (by kernel_rfl) (Xg.opx_pure ((Value.agg #[iv 0, iv 0, iv 0])) rfl (fun _ => by kernel_rfl) ?_)
        refine Xg.ops_op (by kernel_rfl) (Xg.opx_pure ((iv 92)) rfl (fun _ => by kernel_rfl) ?_)
        refine Xg.ops_op (by kernel_rfl) (Xg.opx_pure ((iv 92)) rfl (fun _ => by kernel_rfl) ?_)
        refine Xg.ops_nil ?_
        refine Xg.at_seq ?_
        refine Xg.at_region ?_
        refine Xg.ops_op (by kernel_rfl) (Xg.opx_pure ((pv xx3 0)) rfl (fun _ => by kernel_rfl) ?_)
        refine Xg.ops_op (by kernel_rfl) (Xg.opx_pure ((iv 0)) rfl (fun _ => by kernel_rfl) ?_)
        refine Xg.ops_op (by kernel_rfl) (Xg.opx_call1' [0] [PoolS xx3 σ, A] (fun _ => by kernel_rfl) (@hu (xx3)) (by kernel_rfl) (by kernel_rfl) (by kernel_rfl) ?_)
        refine Xg.ops_op (by kernel_rfl) (Xg.opx_pure ((Value.tuple #[iv (↑((0 : Nat) * N) : Int), iv 0])) rfl (fun _ => by kernel_rfl) ?_)
        refine Xg.ops_op (by kernel_rfl) (Xg.opx_pure ((iv (↑((0 : Nat) * N) : Int))) rfl (fun _ => by kernel_rfl) ?_)
        refine Xg.ops_op (by kernel_rfl) (Xg.opx_pure ((iv 0)) rfl (fun _ => by kernel_rfl) ?_)
        refine Xg.ops_op (by kernel_rfl) (Xg.opx_pure ((iv (↑((0 : Nat) * N) : Int))) rfl (fun _ => by kernel_rfl) ?_)
        refine Xg.ops_op (by kernel_rfl) (Xg.opx_pure ((iv 0)) rfl (fun _ => by kernel_rfl) ?_)
        refine Xg.ops_nil ?_
        refine Xg.at_seq ?_
        refine Xg.at_region ?_
        refine Xg.ops_op (by kernel_rfl) (Xg.opx_pure ((pv xx3 0)) rfl (fun _ => by kernel_rfl) ?_)
        refine Xg.ops_op (by kernel_rfl) (Xg.opx_pure ((iv 0)) rfl (fun _ => by kernel_rfl) ?_)
        refine Xg.ops_op (by kernel_rfl) (Xg.opx_callE' [0] (fun xx4 => [PoolS xx3 σ, recsO (42 : Nat) (3 : Nat) leK xx4.fst xx4.snd l, A]) (fun _ => by kernel_rfl) (@hl2 (xx3)) (by kernel_rfl) (by kernel_rfl) (by kernel_rfl) fun xx4 xh4 => ?_)
        try dsimp only at xh4
        refine Xg.ops_op (by kernel_rfl) (Xg.opx_pure ((Value.slice xx4.fst l.length xx4.snd)) rfl (fun _ => by kernel_rfl) ?_)
        refine Xg.ops_nil ?_
        refine Xg.at_seq ?_
        refine Xg.at_seq ?_
        refine Xg.at_region ?_
        refine Xg.ops_op (by kernel_rfl) (Xg.opx_pure ((iv 92)) rfl (fun _ => by kernel_rfl) ?_)
        refine Xg.ops_op (by kernel_rfl) (Xg.opx_pure ((Value.bool false)) rfl (fun _ => by kernel_rfl) ?_)
        refine Xg.ops_op (by kernel_rfl) (Xg.opx_pure ((Value.bool false)) rfl (fun _ => by kernel_rfl) ?_)
        refine Xg.ops_op (by kernel_rfl) (Xg.opx_pure ((iv 0)) rfl (fun _ => by kernel_rfl) ?_)
        refine Xg.ops_op (by kernel_rfl) (Xg.opx_pure ((Value.bool false)) rfl (fun _ => by kernel_rfl) ?_)
        refine Xg.ops_op (by kernel_rfl) (Xg.opx_pure ((Value.bool false)) rfl (fun _ => by kernel_rfl) ?_)
        refine Xg.ops_op (by kernel_rfl) (Xg.opx_pure ((Value.bool false)) rfl (fun _ => by kernel_rfl) ?_)
        refine Xg.ops_op (by kernel_rfl) (Xg.opx_pure ((iv (↑((0 : Nat) * N) : Int))) rfl (fun _ => by kernel_rfl) ?_)
        refine Xg.ops_op (by kernel_rfl) (Xg.opx_pure ((iv (↑xx2 : Int))) rfl (fun _ => by kernel_rfl) ?_)
        refine Xg.ops_op (by kernel_rfl) (Xg.opx_pure ((iv (↑N : Int))) rfl (fun _ => by kernel_rfl) ?_)
        refine Xg.ops_op (by kernel_rfl) (Xg.opx_run (.int .i64 (((↑xx2 : Int)) / ((↑N : Int)))) rfl (fun _ => Xg.run_quo (m := ((↑xx2 : Int))) (e := ((↑N : Int))) (by kernel_rfl) (by kernel_rfl) (by omega) (by omega)) ?_)
        refine Xg.ops_op (by kernel_rfl) (Xg.opx_pure ((iv (↑N : Int))) rfl (fun _ => by kernel_rfl) ?_)
        refine Xg.ops_op (by kernel_rfl) (Xg.opx_int .i64 (IntKind.wrap .i64 (((↑xx2 : Int) / (↑N : Int) * (↑N : Int)))) rfl (fun _ => by kernel_rfl) (Xg.wrap_i64_in (by omega)) ?_)
        refine Xg.ops_op (by kernel_rfl) (Xg.opx_pure (.bool (!decide ((((↑((0 : Nat) * N) : Int)) : Int) = ((↑xx2 : Int) / (↑N : Int) * (↑N : Int))))) rfl (fun _ => by kernel_rfl) ?_)
        refine Xg.ops_flag (j := 93) (c := (!decide ((↑((0 : Nat) * N) : Int) = (↑xx2 : Int) / (↑N : Int) * (↑N : Int)))) (by kernel_rfl) (fun xh5 => absurd xh5 (by rw [decide_eq_true (p := ((↑((0 : Nat) * N) : Int) = (↑xx2 : Int) / (↑N : Int) * (↑N : Int))) (by omega)]; decide)) (fun _ => ?_)
        refine Xg.ops_op (by kernel_rfl) (Xg.opx_pure ((Value.bool false)) rfl (fun _ => by kernel_rfl) ?_)
        refine Xg.ops_op (by kernel_rfl) (Xg.opx_pure ((Value.bool false)) rfl (fun _ => by kernel_rfl) ?_)
        refine Xg.ops_op (by kernel_rfl) (Xg.opx_pure ((Value.slice xx4.fst l.length xx4.snd)) rfl (fun _ => by kernel_rfl) ?_)
        refine Xg.ops_op (by kernel_rfl) (Xg.opx_pure ((iv (↑l.length : Int))) rfl (fun _ => by kernel_rfl) ?_)
        refine Xg.ops_op (by kernel_rfl) (Xg.opx_pure ((iv (↑xx2 : Int))) rfl (fun _ => by kernel_rfl) ?_)
        refine Xg.ops_op (by kernel_rfl) (Xg.opx_pure ((iv (↑N : Int))) rfl (fun _ => by kernel_rfl) ?_)
        refine Xg.ops_op (by kernel_rfl) (Xg.opx_run (.int .i64 (((↑xx2 : Int)) / ((↑N : Int)))) rfl (fun _ => Xg.run_quo (m := ((↑xx2 : Int))) (e := ((↑N : Int))) (by kernel_rfl) (by kernel_rfl) (by omega) (by omega)) ?_)
        refine Xg.ops_op (by kernel_rfl) (Xg.opx_pure (.bool (!decide ((((↑l.length : Int)) : Int) = ((↑xx2 : Int) / (↑N : Int))))) rfl (fun _ => by kernel_rfl) ?_)
        refine Xg.ops_flag (j := 101) (c := (!decide ((↑l.length : Int) = (↑xx2 : Int) / (↑N : Int)))) (by kernel_rfl) (fun xh5 => absurd xh5 (by rw [decide_eq_true (p := ((↑l.length : Int) = (↑xx2 : Int) / (↑N : Int))) (by omega)]; decide)) (fun _ => ?_)
        refine Xg.ops_op (by kernel_rfl) (Xg.opx_pure ((Value.bool false)) rfl (fun _ => by kernel_rfl) ?_)
        refine Xg.ops_nil ?_
        refine Xg.at_false (t := false) (by kernel_rfl) rfl ?_
        refine Xg.at_skip ?_
        refine Xg.at_seq ?_
        refine Xg.at_seq ?_
        refine Xg.at_region ?_
        refine Xg.ops_op (by kernel_rfl) (Xg.opx_pure ((Value.slice xx4.fst l.length xx4.snd)) rfl (fun _ => by kernel_rfl) ?_)
        refine Xg.ops_op (by kernel_rfl) (Xg.opx_pure ((iv (↑l.length : Int))) rfl (fun _ => by kernel_rfl) ?_)
        refine Xg.ops_op (by kernel_rfl) (Xg.opx_pure (.bool (decide ((((↑l.length : Int)) : Int) = ((0 : Int))))) rfl (fun _ => by kernel_rfl) ?_)
        refine Xg.ops_nil ?_
        refine Xg.at_true (t := decide (((↑l.length : Int) = (0 : Int)))) (by kernel_rfl) (decide_eq_true (by omega)) ?_
        refine Xg.at_seq ?_
        refine Xg.at_region ?_
        refine Xg.ops_op (by kernel_rfl) (Xg.opx_pure ((Value.bool true)) rfl (fun _ => by kernel_rfl) ?_)
        refine Xg.ops_nil ?_
        refine Xg.at_ret_ps (v := (Value.bool true)) [2] [A] Go.Proofs.Try.func6 (fun _ => by kernel_rfl) (by kernel_rfl) (by kernel_rfl) ?_
        exact ⟨by kernel_rfl, by kernel_rfl⟩)
    · obtain ⟨b, c, m, τ, rfl, hτ, hg⟩ := hl3 (by omega)
      have e1 : i - 1 + 1 = i := by omega
      obtain ⟨τ2, v, hτ2, ht⟩ := hτ.take (by rw [e1]; omega) (by omega) many hmn N (by omega)
      rw [e1] at hτ2
      have hf2 := hτ2.full (by omega) many N (by omega)
      (focus
        refine Xg.at_seq ?_
        refine Xg.at_seq ?_
        refine Xg.at_region ?_
        refine Xg.ops_op (by kernel_rfl) (Xg.opx_pure ((iv (↑i : Int))) rfl (fun _ => by kernel_rfl) ?_)
        refine Xg.ops_op (by kernel_rfl) (Xg.opx_pure ((iv (↑xx2 : Int))) rfl (fun _ => by kernel_rfl) ?_)
        refine Xg.ops_op (by kernel_rfl) (Xg.opx_pure ((iv (↑N : Int))) rfl (fun _ => by kernel_rfl) ?_)
        refine Xg.ops_op (by kernel_rfl) (Xg.opx_run (.int .i64 (((↑xx2 : Int)) / ((↑N : Int)))) rfl (fun _ => Xg.run_quo (m := ((↑xx2 : Int))) (e := ((↑N : Int))) (by kernel_rfl) (by kernel_rfl) (by omega) (by omega)) ?_)
        refine Xg.ops_op (by kernel_rfl) (Xg.opx_pure (.bool (decide ((((↑i : Int)) : Int) < ((↑xx2 : Int) / (↑N : Int))))) rfl (fun _ => by kernel_rfl) ?_)
        refine Xg.ops_nil ?_
        refine Xg.at_false (t := decide (((↑i : Int) < (↑xx2 : Int) / (↑N : Int)))) (by kernel_rfl) (decide_eq_false (by omega)) ?_
        refine Xg.at_exit rfl ?_
        refine Xg.at_seq ?_
        refine Xg.at_region ?_
        refine Xg.ops_op (by kernel_rfl) (Xg.opx_pure ((pv xx3 0)) rfl (fun _ => by kernel_rfl) ?_)
        refine Xg.ops_op (by kernel_rfl) (Xg.opx_pure ((iv 0)) rfl (fun _ => by kernel_rfl) ?_)
        refine Xg.ops_op (by kernel_rfl) (Xg.opx_call1' [0] [PoolS xx3 σ, A] (fun _ => by kernel_rfl) (@hf (xx3)) (by kernel_rfl) (by kernel_rfl) (by kernel_rfl) ?_)
        refine Xg.ops_op (by kernel_rfl) (Xg.opx_pure ((Value.tuple #[Value.agg #[iv 0, iv 0, iv 0], iv 92])) rfl (fun _ => by kernel_rfl) ?_)
        refine Xg.ops_op (by kernel_rfl) (Xg.opx_pure ((Value.agg #[iv 0, iv 0, iv 0])) rfl (fun _ => by kernel_rfl) ?_)
        refine Xg.ops_op (by kernel_rfl) (Xg.opx_pure ((iv 92)) rfl (fun _ => by kernel_rfl) ?_)
        refine Xg.ops_op (by kernel_rfl) (Xg.opx_pure ((iv 92)) rfl (fun _ => by kernel_rfl) ?_)
        refine Xg.ops_nil ?_
        refine Xg.at_seq ?_
        refine Xg.at_region ?_
        refine Xg.ops_op (by kernel_rfl) (Xg.opx_pure ((pv xx3 0)) rfl (fun _ => by kernel_rfl) ?_)
        refine Xg.ops_op (by kernel_rfl) (Xg.opx_pure ((iv 0)) rfl (fun _ => by kernel_rfl) ?_)
        refine Xg.ops_op (by kernel_rfl) (Xg.opx_call1' [0] [PoolS xx3 σ, A] (fun _ => by kernel_rfl) (@hu (xx3)) (by kernel_rfl) (by kernel_rfl) (by kernel_rfl) ?_)
        refine Xg.ops_op (by kernel_rfl) (Xg.opx_pure ((Value.tuple #[iv (↑(i * N) : Int), iv 0])) rfl (fun _ => by kernel_rfl) ?_)
        refine Xg.ops_op (by kernel_rfl) (Xg.opx_pure ((iv (↑(i * N) : Int))) rfl (fun _ => by kernel_rfl) ?_)
        refine Xg.ops_op (by kernel_rfl) (Xg.opx_pure ((iv 0)) rfl (fun _ => by kernel_rfl) ?_)
        refine Xg.ops_op (by kernel_rfl) (Xg.opx_pure ((iv (↑(i * N) : Int))) rfl (fun _ => by kernel_rfl) ?_)
        refine Xg.ops_op (by kernel_rfl) (Xg.opx_pure ((iv 0)) rfl (fun _ => by kernel_rfl) ?_)
        refine Xg.ops_nil ?_
        refine Xg.at_seq ?_
        refine Xg.at_region ?_
        refine Xg.ops_op (by kernel_rfl) (Xg.opx_pure ((pv xx3 0)) rfl (fun _ => by kernel_rfl) ?_)
        refine Xg.ops_op (by kernel_rfl) (Xg.opx_pure ((iv 0)) rfl (fun _ => by kernel_rfl) ?_)
        refine Xg.ops_op (by kernel_rfl) (Xg.opx_callE' [0] (fun xx4 => [PoolS xx3 σ, recsO (42 : Nat) (3 : Nat) leK xx4.fst xx4.snd (((↑b : Int), c) :: m), A]) (fun _ => by kernel_rfl) (@hl2 (xx3)) (by kernel_rfl) (by kernel_rfl) (by kernel_rfl) fun xx4 xh4 => ?_)
        try dsimp only at xh4
        refine Xg.ops_op (by kernel_rfl) (Xg.opx_pure ((Value.slice xx4.fst (((↑b : Int), c) :: m).length xx4.snd)) rfl (fun _ => by kernel_rfl) ?_)
        refine Xg.ops_nil ?_
        refine Xg.at_seq ?_
        refine Xg.at_seq ?_
        refine Xg.at_region ?_
        refine Xg.ops_op (by kernel_rfl) (Xg.opx_pure ((iv 92)) rfl (fun _ => by kernel_rfl) ?_)
        refine Xg.ops_op (by kernel_rfl) (Xg.opx_pure ((Value.bool false)) rfl (fun _ => by kernel_rfl) ?_)
        refine Xg.ops_op (by kernel_rfl) (Xg.opx_pure ((Value.bool false)) rfl (fun _ => by kernel_rfl) ?_)
        refine Xg.ops_op (by kernel_rfl) (Xg.opx_pure ((iv 0)) rfl (fun _ => by kernel_rfl) ?_)
        refine Xg.ops_op (by kernel_rfl) (Xg.opx_pure ((Value.bool false)) rfl (fun _ => by kernel_rfl) ?_)
        refine Xg.ops_op (by kernel_rfl) (Xg.opx_pure ((Value.bool false)) rfl (fun _ => by kernel_rfl) ?_)
        refine Xg.ops_op (by kernel_rfl) (Xg.opx_pure ((Value.bool false)) rfl (fun _ => by kernel_rfl) ?_)
        refine Xg.ops_op (by kernel_rfl) (Xg.opx_pure ((iv (↑(i * N) : Int))) rfl (fun _ => by kernel_rfl) ?_)
        refine Xg.ops_op (by kernel_rfl) (Xg.opx_pure ((iv (↑xx2 : Int))) rfl (fun _ => by kernel_rfl) ?_)
        refine Xg.ops_op (by kernel_rfl) (Xg.opx_pure ((iv (↑N : Int))) rfl (fun _ => by kernel_rfl) ?_)
        refine Xg.ops_op (by kernel_rfl) (Xg.opx_run (.int .i64 (((↑xx2 : Int)) / ((↑N : Int)))) rfl (fun _ => Xg.run_quo (m := ((↑xx2 : Int))) (e := ((↑N : Int))) (by kernel_rfl) (by kernel_rfl) (by omega) (by omega)) ?_)
        refine Xg.ops_op (by kernel_rfl) (Xg.opx_pure ((iv (↑N : Int))) rfl (fun _ => by kernel_rfl) ?_)
        refine Xg.ops_op (by kernel_rfl) (Xg.opx_int .i64 (IntKind.wrap .i64 (((↑xx2 : Int) / (↑N : Int) * (↑N : Int)))) rfl (fun _ => by kernel_rfl) (Xg.wrap_i64_in (by omega)) ?_)
        refine Xg.ops_op (by kernel_rfl) (Xg.opx_pure (.bool (!decide ((((↑(i * N) : Int)) : Int) = ((↑xx2 : Int) / (↑N : Int) * (↑N : Int))))) rfl (fun _ => by kernel_rfl) ?_)
        refine Xg.ops_flag (j := 93) (c := (!decide ((↑(i * N) : Int) = (↑xx2 : Int) / (↑N : Int) * (↑N : Int)))) (by kernel_rfl) (fun xh5 => absurd xh5 (by rw [decide_eq_true (p := ((↑(i * N) : Int) = (↑xx2 : Int) / (↑N : Int) * (↑N : Int))) (by omega)]; decide)) (fun _ => ?_)
        refine Xg.ops_op (by kernel_rfl) (Xg.opx_pure ((Value.bool false)) rfl (fun _ => by kernel_rfl) ?_)
        refine Xg.ops_op (by kernel_rfl) (Xg.opx_pure ((Value.bool false)) rfl (fun _ => by kernel_rfl) ?_)
        refine Xg.ops_op (by kernel_rfl) (Xg.opx_pure ((Value.slice xx4.fst (((↑b : Int), c) :: m).length xx4.snd)) rfl (fun _ => by kernel_rfl) ?_)
        refine Xg.ops_op (by kernel_rfl) (Xg.opx_pure ((iv (↑(((↑b : Int), c) :: m).length : Int))) rfl (fun _ => by kernel_rfl) ?_)
        refine Xg.ops_op (by kernel_rfl) (Xg.opx_pure ((iv (↑xx2 : Int))) rfl (fun _ => by kernel_rfl) ?_)
        refine Xg.ops_op (by kernel_rfl) (Xg.opx_pure ((iv (↑N : Int))) rfl (fun _ => by kernel_rfl) ?_)
        refine Xg.ops_op (by kernel_rfl) (Xg.opx_run (.int .i64 (((↑xx2 : Int)) / ((↑N : Int)))) rfl (fun _ => Xg.run_quo (m := ((↑xx2 : Int))) (e := ((↑N : Int))) (by kernel_rfl) (by kernel_rfl) (by omega) (by omega)) ?_)
        refine Xg.ops_op (by kernel_rfl) (Xg.opx_pure (.bool (!decide ((((↑(((↑b : Int), c) :: m).length : Int)) : Int) = ((↑xx2 : Int) / (↑N : Int))))) rfl (fun _ => by kernel_rfl) ?_)
        refine Xg.ops_flag (j := 101) (c := (!decide ((↑(((↑b : Int), c) :: m).length : Int) = (↑xx2 : Int) / (↑N : Int)))) (by kernel_rfl) (fun xh5 => absurd xh5 (by rw [decide_eq_true (p := ((↑(((↑b : Int), c) :: m).length : Int) = (↑xx2 : Int) / (↑N : Int))) (by omega)]; decide)) (fun _ => ?_)
        refine Xg.ops_op (by kernel_rfl) (Xg.opx_pure ((Value.bool false)) rfl (fun _ => by kernel_rfl) ?_)
        refine Xg.ops_nil ?_
        refine Xg.at_false (t := false) (by kernel_rfl) rfl ?_
        refine Xg.at_skip ?_
        refine Xg.at_seq ?_
        refine Xg.at_seq ?_
        refine Xg.at_region ?_
        refine Xg.ops_op (by kernel_rfl) (Xg.opx_pure ((Value.slice xx4.fst (((↑b : Int), c) :: m).length xx4.snd)) rfl (fun _ => by kernel_rfl) ?_)
        refine Xg.ops_op (by kernel_rfl) (Xg.opx_pure ((iv (↑(((↑b : Int), c) :: m).length : Int))) rfl (fun _ => by kernel_rfl) ?_)
        refine Xg.ops_op (by kernel_rfl) (Xg.opx_pure (.bool (decide ((((↑(((↑b : Int), c) :: m).length : Int)) : Int) = ((0 : Int))))) rfl (fun _ => by kernel_rfl) ?_)
        refine Xg.ops_nil ?_
        refine Xg.at_false (t := false) (by kernel_rfl) rfl ?_
        refine Xg.at_skip ?_
        refine Xg.at_seq ?_
        refine Xg.at_region ?_
        refine Xg.ops_op (by kernel_rfl) (Xg.opx_pure ((pv xx3 0)) rfl (fun _ => by kernel_rfl) ?_)
        refine Xg.ops_op (by kernel_rfl) (Xg.opx_pure ((iv 0)) rfl (fun _ => by kernel_rfl) ?_)
        refine Xg.ops_op (by kernel_rfl) (Xg.opx_pure ((Value.slice xx4.fst (((↑b : Int), c) :: m).length xx4.snd)) rfl (fun _ => by kernel_rfl) ?_)
        refine Xg.ops_op (by kernel_rfl) (Xg.opx_ix_own (elem := 42) (kd := .i64) (e := ((0 : Int))) 1 3 ((0 : Nat)) ((0 : Nat)) rfl (by kernel_rfl) (by kernel_rfl) (by kernel_rfl) (by kernel_rfl) rfl (by omega) (by omega) ?_)
        refine Xg.ops_op (by kernel_rfl) (Xg.opx_pure ((pv (blk xx4.fst) 0)) rfl (fun _ => by kernel_rfl) ?_)
        refine Xg.ops_op (by kernel_rfl) (Xg.opx_load_own (a := xx4.fst) (off := ((0 : Nat))) 1 (iv ((((↑b : Int), c) :: m).getD (0 : Nat) default).fst) rfl (by kernel_rfl) (Xg.get_recs' (wd := 3) (fun _ => rfl) default ((0 : Nat)) 0 (by omega) (by decide) (by omega) (by kernel_rfl)) (by kernel_rfl) ?_)
        refine Xg.ops_op (by kernel_rfl) (Xg.opx_call1' [0] [PoolS xx3 τ, recsO (42 : Nat) (3 : Nat) leK xx4.fst xx4.snd (((↑b : Int), c) :: m), A] (fun _ => by kernel_rfl) (@hg (xx3)) (by kernel_rfl) (by kernel_rfl) (by kernel_rfl) ?_)
        refine Xg.ops_op (by kernel_rfl) (Xg.opx_pure ((iv 0)) rfl (fun _ => by kernel_rfl) ?_)
        refine Xg.ops_nil ?_
        refine Xg.at_seq ?_
        refine Xg.at_region ?_
        refine Xg.ops_op (by kernel_rfl) (Xg.opx_pure ((pv xx3 0)) rfl (fun _ => by kernel_rfl) ?_)
        refine Xg.ops_op (by kernel_rfl) (Xg.opx_pure ((iv 0)) rfl (fun _ => by kernel_rfl) ?_)
        refine Xg.ops_op (by kernel_rfl) (Xg.opx_pure ((iv (↑N : Int))) rfl (fun _ => by kernel_rfl) ?_)
        refine Xg.ops_op (by kernel_rfl) (Xg.opx_pure ((iv many)) rfl (fun _ => by kernel_rfl) ?_)
        refine Xg.ops_op (by kernel_rfl) (Xg.opx_call1' [0] [PoolS xx3 τ2, recsO (42 : Nat) (3 : Nat) leK xx4.fst xx4.snd (((↑b : Int), c) :: m), A] (fun _ => by kernel_rfl) (@ht (xx3)) (by kernel_rfl) (by kernel_rfl) (by kernel_rfl) ?_)
        refine Xg.ops_op (by kernel_rfl) (Xg.opx_pure ((Value.tuple #[Value.agg #[iv (↑v : Int), iv 0, iv (↑N : Int)], iv 0])) rfl (fun _ => by kernel_rfl) ?_)
        refine Xg.ops_op (by kernel_rfl) (Xg.opx_pure ((Value.agg #[iv (↑v : Int), iv 0, iv (↑N : Int)])) rfl (fun _ => by kernel_rfl) ?_)
        refine Xg.ops_op (by kernel_rfl) (Xg.opx_pure ((iv 0)) rfl (fun _ => by kernel_rfl) ?_)
        refine Xg.ops_op (by kernel_rfl) (Xg.opx_pure ((iv 0)) rfl (fun _ => by kernel_rfl) ?_)
        refine Xg.ops_nil ?_
        refine Xg.at_seq ?_
        refine Xg.at_region ?_
        refine Xg.ops_op (by kernel_rfl) (Xg.opx_pure ((pv xx3 0)) rfl (fun _ => by kernel_rfl) ?_)
        refine Xg.ops_op (by kernel_rfl) (Xg.opx_pure ((iv 0)) rfl (fun _ => by kernel_rfl) ?_)
        refine Xg.ops_op (by kernel_rfl) (Xg.opx_pure ((iv (↑N : Int))) rfl (fun _ => by kernel_rfl) ?_)
        refine Xg.ops_op (by kernel_rfl) (Xg.opx_pure ((iv many)) rfl (fun _ => by kernel_rfl) ?_)
        refine Xg.ops_op (by kernel_rfl) (Xg.opx_call1' [0] [PoolS xx3 τ2, recsO (42 : Nat) (3 : Nat) leK xx4.fst xx4.snd (((↑b : Int), c) :: m), A] (fun _ => by kernel_rfl) (@hf2 (xx3)) (by kernel_rfl) (by kernel_rfl) (by kernel_rfl) ?_)
        refine Xg.ops_op (by kernel_rfl) (Xg.opx_pure ((Value.tuple #[Value.agg #[iv 0, iv 0, iv 0], iv 92])) rfl (fun _ => by kernel_rfl) ?_)
        refine Xg.ops_op (by kernel_rfl) (Xg.opx_pure ((Value.agg #[iv 0, iv 0, iv 0])) rfl (fun _ => by kernel_rfl) ?_)
        refine Xg.ops_op (by kernel_rfl) (Xg.opx_pure ((iv 92)) rfl (fun _ => by kernel_rfl) ?_)
        refine Xg.ops_op (by kernel_rfl) (Xg.opx_new 3 [iv 0, iv 0, iv 0] (by kernel_rfl) (by kernel_rfl) fun xb2 => ?_)
        refine Xg.ops_op (by kernel_rfl) (Xg.opx_storen 3 (off := 0) 0 [iv 0, iv 0, iv 0] (by kernel_rfl) rfl (by kernel_rfl) (by kernel_rfl) rfl (by kernel_rfl) (Nat.le_of_ble_eq_true (by kernel_rfl)) ?_)
        refine Xg.ops_op (by kernel_rfl) (Xg.opx_pure ((iv 92)) rfl (fun _ => by kernel_rfl) ?_)
        refine Xg.ops_nil ?_
        refine Xg.at_seq ?_
        refine Xg.at_region ?_
        refine Xg.ops_op (by kernel_rfl) (Xg.opx_pure ((iv 0)) rfl (fun _ => by kernel_rfl) ?_)
        refine Xg.ops_op (by kernel_rfl) (Xg.opx_pure ((Value.bool true)) rfl (fun _ => by kernel_rfl) ?_)
        refine Xg.ops_op (by kernel_rfl) (Xg.opx_pure ((Value.bool true)) rfl (fun _ => by kernel_rfl) ?_)
        refine Xg.ops_op (by kernel_rfl) (Xg.opx_pure ((iv 0)) rfl (fun _ => by kernel_rfl) ?_)
        refine Xg.ops_op (by kernel_rfl) (Xg.opx_pure ((Value.bool true)) rfl (fun _ => by kernel_rfl) ?_)
        refine Xg.ops_op (by kernel_rfl) (Xg.opx_pure ((Value.bool true)) rfl (fun _ => by kernel_rfl) ?_)
        refine Xg.ops_op (by kernel_rfl) (Xg.opx_pure ((Value.bool true)) rfl (fun _ => by kernel_rfl) ?_)
        refine Xg.ops_op (by kernel_rfl) (Xg.opx_pure ((iv 92)) rfl (fun _ => by kernel_rfl) ?_)
        refine Xg.ops_op (by kernel_rfl) (Xg.opx_pure ((Value.bool true)) rfl (fun _ => by kernel_rfl) ?_)
        refine Xg.ops_op (by kernel_rfl) (Xg.opx_pure ((Value.bool true)) rfl (fun _ => by kernel_rfl) ?_)
        refine Xg.ops_op (by kernel_rfl) (Xg.opx_pure ((Value.bool true)) rfl (fun _ => by kernel_rfl) ?_)
        refine Xg.ops_nil ?_
        refine Xg.at_ret_ps (v := (Value.bool true)) [3] [A] Go.Proofs.Try.func6 (fun _ => by kernel_rfl) (by kernel_rfl) (by kernel_rfl) ?_
        exact ⟨by kernel_rfl, by kernel_rfl⟩)
end Go.Proofs.Ytmplimmcjdkhlaa
