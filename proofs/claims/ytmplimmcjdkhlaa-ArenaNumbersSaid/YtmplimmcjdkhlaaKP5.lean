/- The law ArenaNumbers: numbers of arenas are the least that are free. -/
import Derived.Test.YtmplimmcjdkhlaaKPD1
import Derived.Test.YtmplimmcjdkhlaaKS
namespace Go.Proofs.Ytmplimmcjdkhlaa
open Go.Sl Go.Xg
set_option linter.unusedVariables false
set_option linter.unusedSimpArgs false
set_option linter.unnecessarySimpa false
set_option maxHeartbeats 4000000
set_option maxRecDepth 100000


def pickN (c : Int) (n : Nat) : Nat := ((if c < 0 then -(c + 1) else c) % (n : Int)).toNat
theorem pickN_lt (c : Int) (n : Nat) (h : 0 < n) : pickN c n < n := by
  unfold pickN
  have h1 := Int.emod_lt_of_pos (if c < 0 then -(c + 1) else c) (b := (n : Int)) (by omega)
  have h2 := Int.emod_nonneg (if c < 0 then -(c + 1) else c) (b := (n : Int)) (by omega)
  omega
theorem pickN_eq (c : Int) (n : Nat) (h : 0 < n) : ((pickN c n : Nat) : Int) = (if c < 0 then -(c + 1) else c) % (n : Int) := by
  unfold pickN
  have h2 := Int.emod_nonneg (if c < 0 then -(c + 1) else c) (b := (n : Int)) (by omega)
  omega
theorem pick_d (c : Int) (n : Nat) (hc : i64ok c) (hn : 0 < n) : Does Try.prog 13 [.int .i64 c, .int .i64 (n : Nat)] []
    (RetE (fun x : Nat => x = pickN c n ∧ x < n) (fun x => .int .i64 (x : Nat)) (fun _ => [])) := by
  refine Does.mono (post := Ret (.int .i64 ((if c < 0 then -(c + 1) else c) % (n : Int))) []) ?_ fun v ps ⟨e1, e2⟩ => ⟨pickN c n, ⟨rfl, pickN_lt c n hn⟩, by rw [e1, ← pickN_eq c n hn], e2⟩
  obtain ⟨h1, h2⟩ := hc
  (focus
    refine Xg.spec_of Go.Proofs.Try.func13 rfl Go.Proofs.Try.ntmps13 fun g F => ?_)
  (focus
    refine Xg.at_seq ?_
    refine Xg.at_region ?_
    refine Xg.ops_op (by kernel_rfl) (Xg.opx_pure ((iv 0)) rfl (fun _ => by kernel_rfl) ?_)
    refine Xg.ops_nil ?_
    refine Xg.at_seq ?_
    refine Xg.at_seq ?_
    refine Xg.at_region ?_
    refine Xg.ops_op (by kernel_rfl) (Xg.opx_pure ((iv c)) rfl (fun _ => by kernel_rfl) ?_)
    refine Xg.ops_op (by kernel_rfl) (Xg.opx_pure (.bool (decide ((c : Int) < ((0 : Int))))) rfl (fun _ => by kernel_rfl) ?_)
    refine Xg.ops_nil ?_
    refine Xg.at_dec (p := (c < (0 : Int))) (by kernel_rfl) (fun xh1 => ?_) (fun xh1 => ?_)
    refine Xg.at_region ?_
    refine Xg.ops_op (by kernel_rfl) (Xg.opx_pure ((iv c)) rfl (fun _ => by kernel_rfl) ?_)
    refine Xg.ops_op (by kernel_rfl) (Xg.opx_int .i64 (IntKind.wrap .i64 ((c + (1 : Int)))) rfl (fun _ => by kernel_rfl) (Xg.wrap_i64_in (by omega)) ?_)
    refine Xg.ops_op (by kernel_rfl) (Xg.opx_int .i64 (IntKind.wrap .i64 (((0 : Int) - (c + (1 : Int))))) rfl (fun _ => by kernel_rfl) (Xg.wrap_i64_in (by omega)) ?_)
    refine Xg.ops_op (by kernel_rfl) (Xg.opx_pure ((iv ((0 : Int) - (c + (1 : Int))))) rfl (fun _ => by kernel_rfl) ?_)
    refine Xg.ops_nil ?_
    refine Xg.at_seq ?_
    refine Xg.at_region ?_
    refine Xg.ops_op (by kernel_rfl) (Xg.opx_pure ((iv ((0 : Int) - (c + (1 : Int))))) rfl (fun _ => by kernel_rfl) ?_)
    refine Xg.ops_op (by kernel_rfl) (Xg.opx_pure ((iv (↑n : Int))) rfl (fun _ => by kernel_rfl) ?_)
    refine Xg.ops_op (by kernel_rfl) (Xg.opx_run (.int .i64 (((0 : Int) - (c + (1 : Int))) % ((↑n : Int)))) rfl (fun _ => Xg.run_rem (k1 := .i64) (m := ((0 : Int) - (c + (1 : Int)))) (e := ((↑n : Int))) (by kernel_rfl) (by kernel_rfl) (by omega) (by omega)) ?_)
    refine Xg.ops_op (by kernel_rfl) (Xg.opx_pure ((iv (((0 : Int) - (c + (1 : Int))) % (↑n : Int)))) rfl (fun _ => by kernel_rfl) ?_)
    refine Xg.ops_nil ?_
    refine Xg.at_ret_ps (v := (iv (((0 : Int) - (c + (1 : Int))) % (↑n : Int)))) [] [] Go.Proofs.Try.func13 (fun _ => by kernel_rfl) (by kernel_rfl) (by kernel_rfl) ?_
    rotate_left
    refine Xg.at_skip ?_
    refine Xg.at_seq ?_
    refine Xg.at_region ?_
    refine Xg.ops_op (by kernel_rfl) (Xg.opx_pure ((iv c)) rfl (fun _ => by kernel_rfl) ?_)
    refine Xg.ops_op (by kernel_rfl) (Xg.opx_pure ((iv (↑n : Int))) rfl (fun _ => by kernel_rfl) ?_)
    refine Xg.ops_op (by kernel_rfl) (Xg.opx_run (.int .i64 (c % ((↑n : Int)))) rfl (fun _ => Xg.run_rem (k1 := .i64) (m := c) (e := ((↑n : Int))) (by kernel_rfl) (by kernel_rfl) (by omega) (by omega)) ?_)
    refine Xg.ops_op (by kernel_rfl) (Xg.opx_pure ((iv (c % (↑n : Int)))) rfl (fun _ => by kernel_rfl) ?_)
    refine Xg.ops_nil ?_
    refine Xg.at_ret_ps (v := (iv (c % (↑n : Int)))) [] [] Go.Proofs.Try.func13 (fun _ => by kernel_rfl) (by kernel_rfl) (by kernel_rfl) ?_)
  all_goals exact ⟨by first | (rw [if_pos (by omega), Int.zero_sub]; done) | (rw [if_neg (by omega)]; done), rfl⟩


theorem inv_set {N : Nat} {u : Nat → Option Nat} {gg : Nat → Bool} (hI : ∀ k, k < N → gg k = (u k).isSome) (j : Nat) (w : Option Nat) (v : Bool) (hv : v = w.isSome) : ∀ k, k < N → upd gg j v k = (upd u j w k).isSome := fun k hk => by
  unfold upd; split
  · exact hv
  · exact hI k hk

set_option maxHeartbeats 0 in
theorem pnumbers_d (A : HP) (a : Option Addr) (m c : Nat) (xs : List Int) (hm : xs.length = m) (hmx : m ≤ maxLen) (hR : Reads A 1 (.slice a m c) m (xs.map (Value.int .i64))) (hB : ∀ i, i < m → i64ok (xs.getD i 0)) (ar0 : Int) (har : i64ok ar0) :
    Does Try.prog 4 [.slice a m c, .int .i64 ar0] [A] (Ret (.bool true) [A]) := by
  unfold maxLen at hmx
  have hnew := fun b k (hk : k < 64) => new_d b (1 + k) (by omega) (by omega)
  (focus
    refine Xg.spec_of Go.Proofs.Try.func4 rfl Go.Proofs.Try.ntmps4 fun g F => ?_)
  (focus
    refine Xg.at_seq ?_
    refine Xg.at_region ?_
    refine Xg.ops_op (by kernel_rfl) (Xg.opx_pure ((Value.bool false)) rfl (fun _ => by kernel_rfl) ?_)
    refine Xg.ops_nil ?_
    refine Xg.at_seq ?_
    refine Xg.at_region ?_
    refine Xg.ops_op (by kernel_rfl) (Xg.opx_pure ((iv ar0)) rfl (fun _ => by kernel_rfl) ?_)
    refine Xg.ops_op (by kernel_rfl) (Xg.opx_callE' [] (fun xx1 => [A]) (fun _ => by kernel_rfl) (@Go.Proofs.Ytmplimmcjdkhlaa.pick_d (ar0) ((nat_lit 64)) (by omega) (by first | rfl | decide | (constructor <;> omega) | (simp; done) | (simp; omega))) (by kernel_rfl) (by kernel_rfl) (by kernel_rfl) fun xx1 xh1 => ?_)
    try dsimp only at xh1
    obtain ⟨xh1_0, xh1_1⟩ := xh1
    refine Xg.ops_op (by kernel_rfl) (Xg.opx_int .i64 (IntKind.wrap .i64 (((1 : Int) + (↑xx1 : Int)))) rfl (fun _ => by kernel_rfl) (Xg.wrap_i64_in (by omega)) ?_)
    refine Xg.ops_op (by kernel_rfl) (Xg.opx_pure ((iv ((1 : Int) + (↑xx1 : Int)))) rfl (fun _ => by kernel_rfl) ?_)
    refine Xg.ops_nil ?_
    refine Xg.at_seq ?_
    refine Xg.at_region ?_
    refine Xg.ops_op (by kernel_rfl) (Xg.opx_pure ((Value.agg #[iv 1, iv 1])) rfl (fun _ => by kernel_rfl) ?_)
    refine Xg.ops_op (by kernel_rfl) (Xg.opx_bs (elem := 32) 2 [Value.agg #[iv 1, iv 1]] [iv 1, iv 1] (by kernel_rfl) (by kernel_rfl) (by decide) rfl (by kernel_rfl) (by kernel_rfl) (by kernel_rfl) (by kernel_rfl) fun xb1 => ?_)
    refine Xg.ops_op (by kernel_rfl) (Xg.opx_pure ((iv ((1 : Int) + (↑xx1 : Int)))) rfl (fun _ => by kernel_rfl) ?_)
    refine Xg.ops_op (by kernel_rfl) (Xg.opx_pure ((Value.agg #[Value.slice (some (Addr.mk xb1 (0 : Nat) none)) (1 : Nat) (1 : Nat), iv ((1 : Int) + (↑xx1 : Int))])) rfl (fun _ => by kernel_rfl) ?_)
    refine Xg.ops_op (by kernel_rfl) (Xg.opx_callE' [0] (fun xx2 => [PoolP xx2 ((1 : Nat) + xx1) fun (x : Nat) => none, A]) (fun _ => by kernel_rfl) (@hnew (xb1) (xx1) (by omega)) (by kernel_rfl) (by kernel_rfl) (by kernel_rfl) fun xx2 xh2 => ?_)
    try dsimp only at xh2
    refine Xg.ops_op (by kernel_rfl) (Xg.opx_pure ((Value.tuple #[pv xx2 0, iv 0])) rfl (fun _ => by kernel_rfl) ?_)
    refine Xg.ops_op (by kernel_rfl) (Xg.opx_pure ((pv xx2 0)) rfl (fun _ => by kernel_rfl) ?_)
    refine Xg.ops_op (by kernel_rfl) (Xg.opx_pure ((iv 0)) rfl (fun _ => by kernel_rfl) ?_)
    refine Xg.ops_op (by kernel_rfl) (Xg.opx_pure ((pv xx2 0)) rfl (fun _ => by kernel_rfl) ?_)
    refine Xg.ops_op (by kernel_rfl) (Xg.opx_pure ((iv 0)) rfl (fun _ => by kernel_rfl) ?_)
    refine Xg.ops_nil ?_
    refine Xg.at_seq ?_
    refine Xg.at_seq ?_
    refine Xg.at_region ?_
    refine Xg.ops_op (by kernel_rfl) (Xg.opx_pure ((pv xx2 0)) rfl (fun _ => by kernel_rfl) ?_)
    refine Xg.ops_op (by kernel_rfl) (Xg.opx_pure ((Value.bool false)) rfl (fun _ => by kernel_rfl) ?_)
    refine Xg.ops_op (by kernel_rfl) (Xg.opx_pure ((Value.bool false)) rfl (fun _ => by kernel_rfl) ?_)
    refine Xg.ops_op (by kernel_rfl) (Xg.opx_pure ((iv 0)) rfl (fun _ => by kernel_rfl) ?_)
    refine Xg.ops_op (by kernel_rfl) (Xg.opx_pure ((Value.bool false)) rfl (fun _ => by kernel_rfl) ?_)
    refine Xg.ops_op (by kernel_rfl) (Xg.opx_pure ((Value.bool false)) rfl (fun _ => by kernel_rfl) ?_)
    refine Xg.ops_nil ?_
    refine Xg.at_false (t := false) (by kernel_rfl) rfl ?_
    refine Xg.at_skip ?_
    refine Xg.at_seq ?_
    refine Xg.at_region ?_
    refine Xg.ops_op (by kernel_rfl) (Xg.opx_pure ((iv ((1 : Int) + (↑xx1 : Int)))) rfl (fun _ => by kernel_rfl) ?_))
  refine Xg.ops_op (by kernel_rfl) (opx_make_row (k1 := .i64) (k2 := .i64) (elem := 4) (1 + xx1) 1 (.bool false) (by kernel_rfl) (El.mk' (by kernel_rfl) rfl) rfl (by kernel_rfl) (by kernel_rfl) (by omega) (by unfold maxLen; omega) fun ob => ?_)
  rw [arr_rep (1 + xx1) (.bool false)]
  (focus
    refine Xg.ops_op (by kernel_rfl) (Xg.opx_pure ((Value.slice (some (Addr.mk ob (0 : Nat) none)) ((1 : Nat) + xx1) ((1 : Nat) + xx1))) rfl (fun _ => by kernel_rfl) ?_)
    refine Xg.ops_nil ?_
    refine Xg.at_seq ?_
    refine Xg.at_seq ?_
    refine Xg.at_region ?_
    refine Xg.ops_op (by kernel_rfl) (Xg.opx_pure ((iv 0)) rfl (fun _ => by kernel_rfl) ?_)
    refine Xg.ops_nil ?_
    refine Xg.at_block ?_)
  (focus
    refine Xg.at_keep [1, 0, 2] (by kernel_rfl) ?_
    refine Xg.at_rounds_inv (α := (Nat × (Nat → Option Nat) × (Nat → Bool)) × (Nat → Value)) (fun x => ((fun x => x.1 ≤ m ∧ ∀ k, k < (1 + xx1) → x.2.2 k = (x.2.1 k).isSome) : (Nat × (Nat → Option Nat) × (Nat → Bool)) → Prop) x.1) (fun x => ((fun x => m - x.1) : (Nat × (Nat → Option Nat) × (Nat → Bool)) → Nat) x.1) (fun x => Xg.headT [Value.slice a m c, iv ar0, tu, tu, Value.bool false, iv ((1 : Int) + (↑xx1 : Int)), pv xx2 0, iv 0, Value.slice (some (Addr.mk ob (0 : Nat) none)) ((1 : Nat) + xx1) ((1 : Nat) + xx1), iv 0, tu, tu, tu, tu, tu, tu, tu, tu, tu, tu, iv ar0, iv (↑xx1 : Int), iv ((1 : Int) + (↑xx1 : Int)), Value.tuple #[pv xx2 0, iv 0], Value.agg #[iv 1, iv 1], Value.slice (some (Addr.mk xb1 (0 : Nat) none)) (1 : Nat) (1 : Nat), iv ((1 : Int) + (↑xx1 : Int)), Value.agg #[Value.slice (some (Addr.mk xb1 (0 : Nat) none)) (1 : Nat) (1 : Nat), iv ((1 : Int) + (↑xx1 : Int))], Value.tuple #[pv xx2 0, iv 0], pv xx2 0, iv 0, pv xx2 0, Value.bool false, Value.bool false, iv 0, Value.bool false, Value.bool false, iv ((1 : Int) + (↑xx1 : Int)), Value.slice (some (Addr.mk ob (0 : Nat) none)) ((1 : Nat) + xx1) ((1 : Nat) + xx1), tu, tu, tu, tu, tu, tu, tu, tu, tu, tu, tu, tu, tu, tu, tu, tu, tu, tu, tu, tu, tu, tu, tu, tu, tu, tu, tu, tu, tu, tu, tu, tu, tu, tu, tu, tu, tu, tu, tu, tu, tu, tu, tu, tu, tu, tu, tu, tu, tu, tu, tu, tu, tu, tu, tu, tu, tu, tu, tu, tu, tu, tu, tu, tu, tu, tu, tu, tu, tu, tu, tu, tu, tu, tu, tu, tu, tu, tu, tu, tu, tu, tu, tu, tu, tu, tu, tu, tu, tu] [4, 10, 11, 12, 13, 14, 15, 16, 17, 39, 40, 41, 42, 43, 44, 45, 46, 47, 48, 49, 50, 51, 52, 53, 54, 55, 56, 57, 58, 59, 60, 61, 62, 63, 64, 65, 66, 67, 68, 69, 70, 71, 72, 73, 74, 75, 76, 77, 78, 79, 80, 81, 82, 83, 84, 85, 86, 87, 88, 89, 90, 91, 92, 93, 94, 95, 96, 97, 98, 99, 100, 101, 102, 103, 104, 105, 106, 107, 108, 109, 110, 111, 112, 113, 114, 115, 116] (((fun x => [(9, .int .i64 (x.1 : Nat))]) : (Nat × (Nat → Option Nat) × (Nat → Bool)) → List (Nat × Go.Value)) x.1) x.2) (fun x => ((fun x => [PoolP xx2 (1 + xx1) x.2.1, row ob 4 (bcs (1 + xx1) x.2.2), A]) : (Nat × (Nat → Option Nat) × (Nat → Bool)) → List Go.Sl.HP) x.1) (((0, fun _ => none, fun _ => false)), fun j9 => ([Value.slice a m c, iv ar0, tu, tu, Value.bool false, iv ((1 : Int) + (↑xx1 : Int)), pv xx2 0, iv 0, Value.slice (some (Addr.mk ob (0 : Nat) none)) ((1 : Nat) + xx1) ((1 : Nat) + xx1), iv 0, tu, tu, tu, tu, tu, tu, tu, tu, tu, tu, iv ar0, iv (↑xx1 : Int), iv ((1 : Int) + (↑xx1 : Int)), Value.tuple #[pv xx2 0, iv 0], Value.agg #[iv 1, iv 1], Value.slice (some (Addr.mk xb1 (0 : Nat) none)) (1 : Nat) (1 : Nat), iv ((1 : Int) + (↑xx1 : Int)), Value.agg #[Value.slice (some (Addr.mk xb1 (0 : Nat) none)) (1 : Nat) (1 : Nat), iv ((1 : Int) + (↑xx1 : Int))], Value.tuple #[pv xx2 0, iv 0], pv xx2 0, iv 0, pv xx2 0, Value.bool false, Value.bool false, iv 0, Value.bool false, Value.bool false, iv ((1 : Int) + (↑xx1 : Int)), Value.slice (some (Addr.mk ob (0 : Nat) none)) ((1 : Nat) + xx1) ((1 : Nat) + xx1), tu, tu, tu, tu, tu, tu, tu, tu, tu, tu, tu, tu, tu, tu, tu, tu, tu, tu, tu, tu, tu, tu, tu, tu, tu, tu, tu, tu, tu, tu, tu, tu, tu, tu, tu, tu, tu, tu, tu, tu, tu, tu, tu, tu, tu, tu, tu, tu, tu, tu, tu, tu, tu, tu, tu, tu, tu, tu, tu, tu, tu, tu, tu, tu, tu, tu, tu, tu, tu, tu, tu, tu, tu, tu, tu, tu, tu, tu, tu, tu, tu, tu, tu, tu, tu, tu, tu, tu, tu] : List Value).getD j9 undef) (by kernel_rfl) (by kernel_rfl) ?_ ?_)
  · exact ⟨Nat.zero_le _, fun _ _ => rfl⟩
  rintro ⟨⟨i, u, gg⟩, J⟩ ⟨hi, hI⟩ ih
  dsimp only at hi hI
  (focus
    refine Xg.At.same (T' := [Value.slice a m c, iv ar0, tu, tu, J 4, iv ((1 : Int) + (↑xx1 : Int)), pv xx2 0, iv 0, Value.slice (some (Addr.mk ob (0 : Nat) none)) ((1 : Nat) + xx1) ((1 : Nat) + xx1), iv (↑i : Int), J 10, J 11, J 12, J 13, J 14, J 15, J 16, J 17, tu, tu, iv ar0, iv (↑xx1 : Int), iv ((1 : Int) + (↑xx1 : Int)), Value.tuple #[pv xx2 0, iv 0], Value.agg #[iv 1, iv 1], Value.slice (some (Addr.mk xb1 (0 : Nat) none)) (1 : Nat) (1 : Nat), iv ((1 : Int) + (↑xx1 : Int)), Value.agg #[Value.slice (some (Addr.mk xb1 (0 : Nat) none)) (1 : Nat) (1 : Nat), iv ((1 : Int) + (↑xx1 : Int))], Value.tuple #[pv xx2 0, iv 0], pv xx2 0, iv 0, pv xx2 0, Value.bool false, Value.bool false, iv 0, Value.bool false, Value.bool false, iv ((1 : Int) + (↑xx1 : Int)), Value.slice (some (Addr.mk ob (0 : Nat) none)) ((1 : Nat) + xx1) ((1 : Nat) + xx1), J 39, J 40, J 41, J 42, J 43, J 44, J 45, J 46, J 47, J 48, J 49, J 50, J 51, J 52, J 53, J 54, J 55, J 56, J 57, J 58, J 59, J 60, J 61, J 62, J 63, J 64, J 65, J 66, J 67, J 68, J 69, J 70, J 71, J 72, J 73, J 74, J 75, J 76, J 77, J 78, J 79, J 80, J 81, J 82, J 83, J 84, J 85, J 86, J 87, J 88, J 89, J 90, J 91, J 92, J 93, J 94, J 95, J 96, J 97, J 98, J 99, J 100, J 101, J 102, J 103, J 104, J 105, J 106, J 107, J 108, J 109, J 110, J 111, J 112, J 113, J 114, J 115, J 116, tu, tu, tu, tu, tu, tu, tu, tu, tu, tu, tu]) (L' := [PoolP xx2 ((1 : Nat) + xx1) ((i, u, gg), J).fst.snd.fst, row ob (4 : TypeId) (bcs ((1 : Nat) + xx1) ((i, u, gg), J).fst.snd.snd), A]) (by kernel_rfl) rfl ?_)
  by_cases hlt : i < m ∧ i < 150
  · obtain ⟨hlt1, hlt2⟩ := hlt
    have hBi := hB i hlt1
    have hpk : Does Try.prog 13 [.int .i64 (xs.getD i 0), .int .i64 ((1 : Int) + (xx1 : Int) + 3)] [] (RetE (fun x : Nat => x < (1 + xx1) + 3) (fun x => .int .i64 (x : Nat)) (fun _ => [])) := by
      have := pick_d (xs.getD i 0) ((1 + xx1) + 3) hBi (by omega)
      rw [show (((1 + xx1) + 3 : Nat) : Int) = (1 : Int) + (xx1 : Int) + 3 from by omega] at this
      exact Does.mono this fun v ps ⟨x, ⟨_, h2⟩, h3, h4⟩ => ⟨x, h2, h3, h4⟩
    (focus
      refine Xg.at_seq ?_
      refine Xg.at_seq ?_
      refine Xg.at_region ?_
      refine Xg.ops_op (by kernel_rfl) (Xg.opx_pure ((iv (↑i : Int))) rfl (fun _ => by kernel_rfl) ?_)
      refine Xg.ops_op (by kernel_rfl) (Xg.opx_pure ((Value.slice a m c)) rfl (fun _ => by kernel_rfl) ?_)
      refine Xg.ops_op (by kernel_rfl) (Xg.opx_pure ((iv (↑m : Int))) rfl (fun _ => by kernel_rfl) ?_)
      refine Xg.ops_op (by kernel_rfl) (Xg.opx_pure (.bool (decide ((((↑i : Int)) : Int) < ((↑m : Int))))) rfl (fun _ => by kernel_rfl) ?_)
      refine Xg.ops_op (by kernel_rfl) (Xg.opx_pure ((Value.bool (decide ((↑i : Int) < (↑m : Int))))) rfl (fun _ => by kernel_rfl) ?_)
      refine Xg.ops_flag (j := 43) (c := (decide ((↑i : Int) < (↑m : Int)))) (by kernel_rfl) (fun _ => ?_) (fun xh3 => absurd (of_decide_eq_false xh3) (by omega))
      refine Xg.ops_op (by kernel_rfl) (Xg.opx_pure ((iv (↑i : Int))) rfl (fun _ => by kernel_rfl) ?_)
      refine Xg.ops_op (by kernel_rfl) (Xg.opx_pure (.bool (decide ((((↑i : Int)) : Int) < ((150 : Int))))) rfl (fun _ => by kernel_rfl) ?_)
      refine Xg.ops_flag (j := 45) (c := (decide ((↑i : Int) < (150 : Int)))) (by kernel_rfl) (fun _ => ?_) (fun xh3 => absurd (of_decide_eq_false xh3) (by omega))
      refine Xg.ops_op (by kernel_rfl) (Xg.opx_pure ((Value.bool true)) rfl (fun _ => by kernel_rfl) ?_)
      refine Xg.ops_nil ?_
      refine Xg.at_true (t := true) (by kernel_rfl) rfl ?_
      refine Xg.at_skip ?_
      refine Xg.at_seq ?_
      refine Xg.at_block ?_
      refine Xg.at_seq ?_
      refine Xg.at_region ?_
      refine Xg.ops_op (by kernel_rfl) (Xg.opx_pure ((Value.slice a m c)) rfl (fun _ => by kernel_rfl) ?_)
      refine Xg.ops_op (by kernel_rfl) (Xg.opx_pure ((iv (↑i : Int))) rfl (fun _ => by kernel_rfl) ?_)
      refine Xg.ops_op (by kernel_rfl) (Xg.opx_rd 2 (.pointer (some (Addr.mk (Xg.blk a) (offA a + i) none))) rfl hR (by kernel_rfl) (Xg.run_ix_rd (elem := 3) (kd := .i64) (e := ((↑i : Int))) 1 i (offA a + i) (by kernel_rfl) (by kernel_rfl) (by kernel_rfl) (by kernel_rfl) rfl (by omega) (by simp only [List.length_map]; omega) (by omega)) ?_)
      refine Xg.ops_op (by kernel_rfl) (Xg.opx_rd 2 (iv (xs.getD i (0 : Int))) rfl hR (by kernel_rfl) (Xg.run_load_rd (off0 := (offA a + i)) i (by kernel_rfl) (by omega) (Xg.get_ints (by omega)) (by kernel_rfl)) ?_)
      refine Xg.ops_op (by kernel_rfl) (Xg.opx_pure ((iv ((1 : Int) + (↑xx1 : Int)))) rfl (fun _ => by kernel_rfl) ?_)
      refine Xg.ops_op (by kernel_rfl) (Xg.opx_int .i64 (IntKind.wrap .i64 (((1 : Int) + (↑xx1 : Int) + (3 : Int)))) rfl (fun _ => by kernel_rfl) (Xg.wrap_i64_in (by omega)) ?_)
      refine Xg.ops_op (by kernel_rfl) (Xg.opx_callE' [] (fun xx3 => [PoolP xx2 ((1 : Nat) + xx1) u, row ob (4 : TypeId) (bcs ((1 : Nat) + xx1) ((i, u, gg), J).fst.snd.snd), A]) (fun _ => by kernel_rfl) (@hpk ) (by kernel_rfl) (by kernel_rfl) (by kernel_rfl) fun xx3 xh3 => ?_)
      try dsimp only at xh3
      refine Xg.ops_op (by kernel_rfl) (Xg.opx_pure ((iv (↑xx3 : Int))) rfl (fun _ => by kernel_rfl) ?_)
      refine Xg.ops_nil ?_
      refine Xg.at_seq ?_
      refine Xg.at_region ?_
      refine Xg.ops_op (by kernel_rfl) (Xg.opx_pure ((iv 0)) rfl (fun _ => by kernel_rfl) ?_)
      refine Xg.ops_nil ?_
      refine Xg.at_seq ?_
      refine Xg.at_block ?_)
    (focus
      refine Xg.at_rounds_inv (α := (Nat) × (Nat → Value)) (fun x => ((fun l => l ≤ (1 + xx1) ∧ ∀ q, q < l → gg q = true) : (Nat) → Prop) x.1) (fun x => ((fun l => (1 + xx1) - l) : (Nat) → Nat) x.1) (fun x => Xg.headT [Value.slice a m c, iv ar0, tu, tu, J 4, iv ((1 : Int) + (↑xx1 : Int)), pv xx2 0, iv 0, Value.slice (some (Addr.mk ob (0 : Nat) none)) ((1 : Nat) + xx1) ((1 : Nat) + xx1), iv (↑i : Int), iv (↑xx3 : Int), iv 0, J 12, J 13, J 14, J 15, J 16, J 17, tu, tu, iv ar0, iv (↑xx1 : Int), iv ((1 : Int) + (↑xx1 : Int)), Value.tuple #[pv xx2 0, iv 0], Value.agg #[iv 1, iv 1], Value.slice (some (Addr.mk xb1 (0 : Nat) none)) (1 : Nat) (1 : Nat), iv ((1 : Int) + (↑xx1 : Int)), Value.agg #[Value.slice (some (Addr.mk xb1 (0 : Nat) none)) (1 : Nat) (1 : Nat), iv ((1 : Int) + (↑xx1 : Int))], Value.tuple #[pv xx2 0, iv 0], pv xx2 0, iv 0, pv xx2 0, Value.bool false, Value.bool false, iv 0, Value.bool false, Value.bool false, iv ((1 : Int) + (↑xx1 : Int)), Value.slice (some (Addr.mk ob (0 : Nat) none)) ((1 : Nat) + xx1) ((1 : Nat) + xx1), iv (↑i : Int), Value.slice a m c, iv (↑m : Int), Value.bool (decide ((↑i : Int) < (↑m : Int))), Value.bool true, iv (↑i : Int), Value.bool true, Value.bool true, J 47, J 48, Value.slice a m c, iv (↑i : Int), Value.pointer (some (Addr.mk (blk a) (offA a + i) none)), iv (xs.getD i (0 : Int)), iv ((1 : Int) + (↑xx1 : Int)), iv ((1 : Int) + (↑xx1 : Int) + (3 : Int)), iv (↑xx3 : Int), J 56, J 57, J 58, J 59, J 60, J 61, J 62, J 63, J 64, J 65, J 66, J 67, J 68, J 69, J 70, J 71, J 72, J 73, J 74, J 75, J 76, J 77, J 78, J 79, J 80, J 81, J 82, J 83, J 84, J 85, J 86, J 87, J 88, J 89, J 90, J 91, J 92, J 93, J 94, J 95, J 96, J 97, J 98, J 99, J 100, J 101, J 102, J 103, J 104, J 105, J 106, J 107, J 108, J 109, J 110, J 111, J 112, J 113, J 114, J 115, J 116, tu, tu, tu, tu, tu, tu, tu, tu, tu, tu, tu] [56, 57, 58, 59, 60, 61, 62, 63, 64, 65, 66] (((fun l => [(11, .int .i64 (l : Nat))]) : (Nat) → List (Nat × Go.Value)) x.1) x.2) (fun x => ((fun l => [PoolP xx2 (1 + xx1) u, row ob 4 (bcs (1 + xx1) gg), A]) : (Nat) → List Go.Sl.HP) x.1) ((0), fun j9 => ([Value.slice a m c, iv ar0, tu, tu, J 4, iv ((1 : Int) + (↑xx1 : Int)), pv xx2 0, iv 0, Value.slice (some (Addr.mk ob (0 : Nat) none)) ((1 : Nat) + xx1) ((1 : Nat) + xx1), iv (↑i : Int), iv (↑xx3 : Int), iv 0, J 12, J 13, J 14, J 15, J 16, J 17, tu, tu, iv ar0, iv (↑xx1 : Int), iv ((1 : Int) + (↑xx1 : Int)), Value.tuple #[pv xx2 0, iv 0], Value.agg #[iv 1, iv 1], Value.slice (some (Addr.mk xb1 (0 : Nat) none)) (1 : Nat) (1 : Nat), iv ((1 : Int) + (↑xx1 : Int)), Value.agg #[Value.slice (some (Addr.mk xb1 (0 : Nat) none)) (1 : Nat) (1 : Nat), iv ((1 : Int) + (↑xx1 : Int))], Value.tuple #[pv xx2 0, iv 0], pv xx2 0, iv 0, pv xx2 0, Value.bool false, Value.bool false, iv 0, Value.bool false, Value.bool false, iv ((1 : Int) + (↑xx1 : Int)), Value.slice (some (Addr.mk ob (0 : Nat) none)) ((1 : Nat) + xx1) ((1 : Nat) + xx1), iv (↑i : Int), Value.slice a m c, iv (↑m : Int), Value.bool (decide ((↑i : Int) < (↑m : Int))), Value.bool true, iv (↑i : Int), Value.bool true, Value.bool true, J 47, J 48, Value.slice a m c, iv (↑i : Int), Value.pointer (some (Addr.mk (blk a) (offA a + i) none)), iv (xs.getD i (0 : Int)), iv ((1 : Int) + (↑xx1 : Int)), iv ((1 : Int) + (↑xx1 : Int) + (3 : Int)), iv (↑xx3 : Int), J 56, J 57, J 58, J 59, J 60, J 61, J 62, J 63, J 64, J 65, J 66, J 67, J 68, J 69, J 70, J 71, J 72, J 73, J 74, J 75, J 76, J 77, J 78, J 79, J 80, J 81, J 82, J 83, J 84, J 85, J 86, J 87, J 88, J 89, J 90, J 91, J 92, J 93, J 94, J 95, J 96, J 97, J 98, J 99, J 100, J 101, J 102, J 103, J 104, J 105, J 106, J 107, J 108, J 109, J 110, J 111, J 112, J 113, J 114, J 115, J 116, tu, tu, tu, tu, tu, tu, tu, tu, tu, tu, tu] : List Value).getD j9 undef) (by kernel_rfl) (by kernel_rfl) ?_ ?_)
    · exact ⟨Nat.zero_le _, fun q h => absurd h (Nat.not_lt_zero _)⟩
    rintro ⟨l, J2⟩ ⟨hl, hlq⟩ ih2
    dsimp only at hl hlq
    (focus
      refine Xg.At.same (T' := [Value.slice a m c, iv ar0, tu, tu, J 4, iv ((1 : Int) + (↑xx1 : Int)), pv xx2 0, iv 0, Value.slice (some (Addr.mk ob (0 : Nat) none)) ((1 : Nat) + xx1) ((1 : Nat) + xx1), iv (↑i : Int), iv (↑xx3 : Int), iv (↑l : Int), J 12, J 13, J 14, J 15, J 16, J 17, tu, tu, iv ar0, iv (↑xx1 : Int), iv ((1 : Int) + (↑xx1 : Int)), Value.tuple #[pv xx2 0, iv 0], Value.agg #[iv 1, iv 1], Value.slice (some (Addr.mk xb1 (0 : Nat) none)) (1 : Nat) (1 : Nat), iv ((1 : Int) + (↑xx1 : Int)), Value.agg #[Value.slice (some (Addr.mk xb1 (0 : Nat) none)) (1 : Nat) (1 : Nat), iv ((1 : Int) + (↑xx1 : Int))], Value.tuple #[pv xx2 0, iv 0], pv xx2 0, iv 0, pv xx2 0, Value.bool false, Value.bool false, iv 0, Value.bool false, Value.bool false, iv ((1 : Int) + (↑xx1 : Int)), Value.slice (some (Addr.mk ob (0 : Nat) none)) ((1 : Nat) + xx1) ((1 : Nat) + xx1), iv (↑i : Int), Value.slice a m c, iv (↑m : Int), Value.bool (decide ((↑i : Int) < (↑m : Int))), Value.bool true, iv (↑i : Int), Value.bool true, Value.bool true, J 47, J 48, Value.slice a m c, iv (↑i : Int), Value.pointer (some (Addr.mk (blk a) (offA a + i) none)), iv (xs.getD i (0 : Int)), iv ((1 : Int) + (↑xx1 : Int)), iv ((1 : Int) + (↑xx1 : Int) + (3 : Int)), iv (↑xx3 : Int), J2 56, J2 57, J2 58, J2 59, J2 60, J2 61, J2 62, J2 63, J2 64, J2 65, J2 66, J 67, J 68, J 69, J 70, J 71, J 72, J 73, J 74, J 75, J 76, J 77, J 78, J 79, J 80, J 81, J 82, J 83, J 84, J 85, J 86, J 87, J 88, J 89, J 90, J 91, J 92, J 93, J 94, J 95, J 96, J 97, J 98, J 99, J 100, J 101, J 102, J 103, J 104, J 105, J 106, J 107, J 108, J 109, J 110, J 111, J 112, J 113, J 114, J 115, J 116, tu, tu, tu, tu, tu, tu, tu, tu, tu, tu, tu]) (L' := [PoolP xx2 ((1 : Nat) + xx1) u, row ob (4 : TypeId) (bcs ((1 : Nat) + xx1) gg), A]) (by kernel_rfl) rfl ?_)
    by_cases hgo : l < (1 + xx1) ∧ gg l = true
    · obtain ⟨hgo1, hgo2⟩ := hgo
      have hg := g_t (1 + xx1) gg l hgo1 hgo2
      (focus
        refine Xg.at_seq ?_
        refine Xg.at_seq ?_
        refine Xg.at_region ?_
        refine Xg.ops_op (by kernel_rfl) (Xg.opx_pure ((iv (↑l : Int))) rfl (fun _ => by kernel_rfl) ?_)
        refine Xg.ops_op (by kernel_rfl) (Xg.opx_pure ((iv ((1 : Int) + (↑xx1 : Int)))) rfl (fun _ => by kernel_rfl) ?_)
        refine Xg.ops_op (by kernel_rfl) (Xg.opx_pure (.bool (decide ((((↑l : Int)) : Int) < ((1 : Int) + (↑xx1 : Int))))) rfl (fun _ => by kernel_rfl) ?_)
        refine Xg.ops_op (by kernel_rfl) (Xg.opx_pure ((Value.bool (decide ((↑l : Int) < (1 : Int) + (↑xx1 : Int))))) rfl (fun _ => by kernel_rfl) ?_)
        refine Xg.ops_flag (j := 59) (c := (decide ((↑l : Int) < (1 : Int) + (↑xx1 : Int)))) (by kernel_rfl) (fun _ => ?_) (fun xh4 => absurd (of_decide_eq_false xh4) (by omega))
        refine Xg.ops_op (by kernel_rfl) (Xg.opx_pure ((Value.slice (some (Addr.mk ob (0 : Nat) none)) ((1 : Nat) + xx1) ((1 : Nat) + xx1))) rfl (fun _ => by kernel_rfl) ?_)
        refine Xg.ops_op (by kernel_rfl) (Xg.opx_pure ((iv (↑l : Int))) rfl (fun _ => by kernel_rfl) ?_)
        refine Xg.ops_op (by kernel_rfl) (Xg.opx_run (.pointer (some (Addr.mk ob l none))) rfl (Xg.run_ix_slice' (elem := 4) (b := ob) (off := ((0 : Nat))) (len := ((1 : Nat) + xx1)) (cap := ((1 : Nat) + xx1)) (kd := .i64) (e := ((↑l : Int))) 1 l l (by kernel_rfl) (by kernel_rfl) (by kernel_rfl) (by kernel_rfl) rfl (by omega) (by omega)) ?_)
        refine Xg.ops_op (by kernel_rfl) (Xg.opx_load (b := ob) (off := l) 1 (Value.bool true) rfl (by kernel_rfl) (@hg ) (by kernel_rfl) ?_)
        refine Xg.ops_op (by kernel_rfl) (Xg.opx_pure ((Value.bool true)) rfl (fun _ => by kernel_rfl) ?_)
        refine Xg.ops_nil ?_
        refine Xg.at_true (t := true) (by kernel_rfl) rfl ?_
        refine Xg.at_skip ?_
        refine Xg.at_block ?_
        refine Xg.at_region ?_
        refine Xg.ops_op (by kernel_rfl) (Xg.opx_pure ((iv (↑l : Int))) rfl (fun _ => by kernel_rfl) ?_)
        refine Xg.ops_op (by kernel_rfl) (Xg.opx_int .i64 (IntKind.wrap .i64 (((↑l : Int) + (1 : Int)))) rfl (fun _ => by kernel_rfl) (Xg.wrap_i64_in (by omega)) ?_)
        refine Xg.ops_op (by kernel_rfl) (Xg.opx_pure ((iv ((↑l : Int) + (1 : Int)))) rfl (fun _ => by kernel_rfl) ?_)
        refine Xg.ops_nil ?_
        refine Xg.at_inBlock ?_
        refine Xg.at_inLoop ?_)
      (focus
        refine Xg.at_keep [0, 1, 2] (by kernel_rfl) ?_
        refine Xs.same ?_ (fun J9 => ih2 (((l + 1)), J9) ?_ ?_) (by kernel_rfl))
      · rfl
      · refine ⟨by dsimp only; omega, fun q hq => ?_⟩
        by_cases e : q = l
        · subst e; exact hgo2
        · exact hlq q (by dsimp only at hq; omega)
      · dsimp only; omega
    · clear ih2
      have hopen : ∀ q, q < l → ∃ b, u q = some b := fun q hq => by
        have h1 := hI q (by omega)
        rw [hlq q hq] at h1
        exact Option.isSome_iff_exists.1 h1.symm
      by_cases hk : xx3 < (1 + xx1) ∧ gg xx3 = true
      · obtain ⟨hk1, hk2⟩ := hk
        obtain ⟨b, hb⟩ : ∃ b, u xx3 = some b := Option.isSome_iff_exists.1 ((hI xx3 hk1).symm.trans hk2)
        have hc1 := close_some xx2 (1 + xx1) xx3 b u hk1 (by omega) hb
        have hc2 := close_none xx2 (1 + xx1) xx3 (upd u xx3 none) hk1 (by omega) (by unfold upd; rw [if_pos rfl])
        have hg2 := g_t (1 + xx1) gg xx3 hk1 hk2
        by_cases hln : l < (1 + xx1)
        · have hg1 := g_f (1 + xx1) gg l hln (by cases e : gg l with | false => rfl | true => exact absurd ⟨hln, e⟩ hgo)
          (focus
            refine Xg.at_seq ?_
            refine Xg.at_seq ?_
            refine Xg.at_region ?_
            refine Xg.ops_op (by kernel_rfl) (Xg.opx_pure ((iv (↑l : Int))) rfl (fun _ => by kernel_rfl) ?_)
            refine Xg.ops_op (by kernel_rfl) (Xg.opx_pure ((iv ((1 : Int) + (↑xx1 : Int)))) rfl (fun _ => by kernel_rfl) ?_)
            refine Xg.ops_op (by kernel_rfl) (Xg.opx_pure (.bool (decide ((((↑l : Int)) : Int) < ((1 : Int) + (↑xx1 : Int))))) rfl (fun _ => by kernel_rfl) ?_)
            refine Xg.ops_op (by kernel_rfl) (Xg.opx_pure ((Value.bool (decide ((↑l : Int) < (1 : Int) + (↑xx1 : Int))))) rfl (fun _ => by kernel_rfl) ?_)
            refine Xg.ops_flag (j := 59) (c := (decide ((↑l : Int) < (1 : Int) + (↑xx1 : Int)))) (by kernel_rfl) (fun _ => ?_) (fun xh4 => absurd (of_decide_eq_false xh4) (by omega))
            refine Xg.ops_op (by kernel_rfl) (Xg.opx_pure ((Value.slice (some (Addr.mk ob (0 : Nat) none)) ((1 : Nat) + xx1) ((1 : Nat) + xx1))) rfl (fun _ => by kernel_rfl) ?_)
            refine Xg.ops_op (by kernel_rfl) (Xg.opx_pure ((iv (↑l : Int))) rfl (fun _ => by kernel_rfl) ?_)
            refine Xg.ops_op (by kernel_rfl) (Xg.opx_run (.pointer (some (Addr.mk ob l none))) rfl (Xg.run_ix_slice' (elem := 4) (b := ob) (off := ((0 : Nat))) (len := ((1 : Nat) + xx1)) (cap := ((1 : Nat) + xx1)) (kd := .i64) (e := ((↑l : Int))) 1 l l (by kernel_rfl) (by kernel_rfl) (by kernel_rfl) (by kernel_rfl) rfl (by omega) (by omega)) ?_)
            refine Xg.ops_op (by kernel_rfl) (Xg.opx_load (b := ob) (off := l) 1 (Value.bool false) rfl (by kernel_rfl) (@hg1 ) (by kernel_rfl) ?_)
            refine Xg.ops_op (by kernel_rfl) (Xg.opx_pure ((Value.bool false)) rfl (fun _ => by kernel_rfl) ?_)
            refine Xg.ops_nil ?_
            refine Xg.at_false (t := false) (by kernel_rfl) rfl ?_
            refine Xg.at_exit rfl ?_
            refine Xg.at_seq ?_
            refine Xg.at_seq ?_
            refine Xg.at_region ?_
            refine Xg.ops_op (by kernel_rfl) (Xg.opx_pure ((iv (↑xx3 : Int))) rfl (fun _ => by kernel_rfl) ?_)
            refine Xg.ops_op (by kernel_rfl) (Xg.opx_pure ((iv ((1 : Int) + (↑xx1 : Int)))) rfl (fun _ => by kernel_rfl) ?_)
            refine Xg.ops_op (by kernel_rfl) (Xg.opx_pure (.bool (decide ((((↑xx3 : Int)) : Int) < ((1 : Int) + (↑xx1 : Int))))) rfl (fun _ => by kernel_rfl) ?_)
            refine Xg.ops_op (by kernel_rfl) (Xg.opx_pure ((Value.bool (decide ((↑xx3 : Int) < (1 : Int) + (↑xx1 : Int))))) rfl (fun _ => by kernel_rfl) ?_)
            refine Xg.ops_flag (j := 70) (c := (decide ((↑xx3 : Int) < (1 : Int) + (↑xx1 : Int)))) (by kernel_rfl) (fun _ => ?_) (fun xh4 => absurd (of_decide_eq_false xh4) (by omega))
            refine Xg.ops_op (by kernel_rfl) (Xg.opx_pure ((Value.slice (some (Addr.mk ob (0 : Nat) none)) ((1 : Nat) + xx1) ((1 : Nat) + xx1))) rfl (fun _ => by kernel_rfl) ?_)
            refine Xg.ops_op (by kernel_rfl) (Xg.opx_pure ((iv (↑xx3 : Int))) rfl (fun _ => by kernel_rfl) ?_)
            refine Xg.ops_op (by kernel_rfl) (Xg.opx_run (.pointer (some (Addr.mk ob xx3 none))) rfl (Xg.run_ix_slice' (elem := 4) (b := ob) (off := ((0 : Nat))) (len := ((1 : Nat) + xx1)) (cap := ((1 : Nat) + xx1)) (kd := .i64) (e := ((↑xx3 : Int))) 1 xx3 xx3 (by kernel_rfl) (by kernel_rfl) (by kernel_rfl) (by kernel_rfl) rfl (by omega) (by omega)) ?_)
            refine Xg.ops_op (by kernel_rfl) (Xg.opx_load (b := ob) (off := xx3) 1 (Value.bool true) rfl (by kernel_rfl) (@hg2 ) (by kernel_rfl) ?_)
            refine Xg.ops_op (by kernel_rfl) (Xg.opx_pure ((Value.bool true)) rfl (fun _ => by kernel_rfl) ?_)
            refine Xg.ops_nil ?_
            refine Xg.at_true (t := true) (by kernel_rfl) rfl ?_
            refine Xg.at_seq ?_
            refine Xg.at_region ?_
            refine Xg.ops_op (by kernel_rfl) (Xg.opx_pure ((pv xx2 0)) rfl (fun _ => by kernel_rfl) ?_)
            refine Xg.ops_op (by kernel_rfl) (Xg.opx_pure ((iv (↑xx3 : Int))) rfl (fun _ => by kernel_rfl) ?_)
            refine Xg.ops_op (by kernel_rfl) (Xg.opx_call1' [0] [PoolP xx2 ((1 : Nat) + xx1) (upd u xx3 none), row ob (4 : TypeId) (bcs ((1 : Nat) + xx1) gg), A] (fun _ => by kernel_rfl) (@hc1 ) (by kernel_rfl) (by kernel_rfl) (by kernel_rfl) ?_)
            refine Xg.ops_op (by kernel_rfl) (Xg.opx_pure ((Value.tuple #[iv 0, iv 0])) rfl (fun _ => by kernel_rfl) ?_)
            refine Xg.ops_op (by kernel_rfl) (Xg.opx_pure ((iv 0)) rfl (fun _ => by kernel_rfl) ?_)
            refine Xg.ops_op (by kernel_rfl) (Xg.opx_pure ((iv 0)) rfl (fun _ => by kernel_rfl) ?_)
            refine Xg.ops_op (by kernel_rfl) (Xg.opx_pure ((iv 0)) rfl (fun _ => by kernel_rfl) ?_)
            refine Xg.ops_op (by kernel_rfl) (Xg.opx_pure ((iv 0)) rfl (fun _ => by kernel_rfl) ?_)
            refine Xg.ops_nil ?_
            refine Xg.at_seq ?_
            refine Xg.at_region ?_
            refine Xg.ops_op (by kernel_rfl) (Xg.opx_pure ((pv xx2 0)) rfl (fun _ => by kernel_rfl) ?_)
            refine Xg.ops_op (by kernel_rfl) (Xg.opx_pure ((iv (↑xx3 : Int))) rfl (fun _ => by kernel_rfl) ?_)
            refine Xg.ops_op (by kernel_rfl) (Xg.opx_call1' [0] [PoolP xx2 ((1 : Nat) + xx1) (upd u xx3 none), row ob (4 : TypeId) (bcs ((1 : Nat) + xx1) gg), A] (fun _ => by kernel_rfl) (@hc2 ) (by kernel_rfl) (by kernel_rfl) (by kernel_rfl) ?_)
            refine Xg.ops_op (by kernel_rfl) (Xg.opx_pure ((Value.tuple #[iv 0, iv 94])) rfl (fun _ => by kernel_rfl) ?_)
            refine Xg.ops_op (by kernel_rfl) (Xg.opx_pure ((iv 0)) rfl (fun _ => by kernel_rfl) ?_)
            refine Xg.ops_op (by kernel_rfl) (Xg.opx_pure ((iv 94)) rfl (fun _ => by kernel_rfl) ?_)
            refine Xg.ops_op (by kernel_rfl) (Xg.opx_pure ((iv 0)) rfl (fun _ => by kernel_rfl) ?_)
            refine Xg.ops_op (by kernel_rfl) (Xg.opx_pure ((iv 94)) rfl (fun _ => by kernel_rfl) ?_)
            refine Xg.ops_nil ?_
            refine Xg.at_seq ?_
            refine Xg.at_seq ?_
            refine Xg.at_region ?_
            refine Xg.ops_op (by kernel_rfl) (Xg.opx_pure ((iv 0)) rfl (fun _ => by kernel_rfl) ?_)
            refine Xg.ops_op (by kernel_rfl) (Xg.opx_pure ((Value.bool false)) rfl (fun _ => by kernel_rfl) ?_)
            refine Xg.ops_op (by kernel_rfl) (Xg.opx_pure ((Value.bool false)) rfl (fun _ => by kernel_rfl) ?_)
            refine Xg.ops_op (by kernel_rfl) (Xg.opx_pure ((iv 94)) rfl (fun _ => by kernel_rfl) ?_)
            refine Xg.ops_op (by kernel_rfl) (Xg.opx_pure ((Value.bool false)) rfl (fun _ => by kernel_rfl) ?_)
            refine Xg.ops_op (by kernel_rfl) (Xg.opx_pure ((Value.bool false)) rfl (fun _ => by kernel_rfl) ?_)
            refine Xg.ops_nil ?_
            refine Xg.at_false (t := false) (by kernel_rfl) rfl ?_
            refine Xg.at_skip ?_
            refine Xg.at_seq ?_
            refine Xg.at_region ?_
            refine Xg.ops_op (by kernel_rfl) (Xg.opx_pure ((Value.slice (some (Addr.mk ob (0 : Nat) none)) ((1 : Nat) + xx1) ((1 : Nat) + xx1))) rfl (fun _ => by kernel_rfl) ?_)
            refine Xg.ops_op (by kernel_rfl) (Xg.opx_pure ((iv (↑xx3 : Int))) rfl (fun _ => by kernel_rfl) ?_)
            refine Xg.ops_op (by kernel_rfl) (Xg.opx_run (.pointer (some (Addr.mk ob xx3 none))) rfl (Xg.run_ix_slice' (elem := 4) (b := ob) (off := ((0 : Nat))) (len := ((1 : Nat) + xx1)) (cap := ((1 : Nat) + xx1)) (kd := .i64) (e := ((↑xx3 : Int))) 1 xx3 xx3 (by kernel_rfl) (by kernel_rfl) (by kernel_rfl) (by kernel_rfl) rfl (by omega) (by omega)) ?_)
            refine Xg.ops_op (by kernel_rfl) (Xg.opx_store_c (off := xx3) (cs' := (bcs ((1 : Nat) + xx1) (upd gg xx3 false))) 1 (Value.bool false) (by kernel_rfl) rfl (by kernel_rfl) (by kernel_rfl) (by kernel_rfl) (@Go.Proofs.Ytmplimmcjdkhlaa.s_b (((1 : Nat) + xx1)) (gg) (xx3) (false) (by omega)) ?_)
            refine Xg.ops_nil ?_
            refine Xg.at_exit rfl ?_
            refine Xg.at_region ?_
            refine Xg.ops_op (by kernel_rfl) (Xg.opx_pure ((iv (↑i : Int))) rfl (fun _ => by kernel_rfl) ?_)
            refine Xg.ops_op (by kernel_rfl) (Xg.opx_int .i64 (IntKind.wrap .i64 (((↑i : Int) + (1 : Int)))) rfl (fun _ => by kernel_rfl) (Xg.wrap_i64_in (by omega)) ?_)
            refine Xg.ops_op (by kernel_rfl) (Xg.opx_pure ((iv ((↑i : Int) + (1 : Int)))) rfl (fun _ => by kernel_rfl) ?_)
            refine Xg.ops_nil ?_
            refine Xg.at_inLoop ?_)
          (focus
            refine Xg.at_keep [0, 1, 2] (by kernel_rfl) ?_
            refine Xs.same ?_ (fun J9 => ih (((i + 1, upd u xx3 none, upd gg xx3 false)), J9) ?_ ?_) (by kernel_rfl))
          · rfl
          · exact ⟨by dsimp only; omega, inv_set hI xx3 none false rfl⟩
          · dsimp only; omega
        · (focus
            refine Xg.at_seq ?_
            refine Xg.at_seq ?_
            refine Xg.at_region ?_
            refine Xg.ops_op (by kernel_rfl) (Xg.opx_pure ((iv (↑l : Int))) rfl (fun _ => by kernel_rfl) ?_)
            refine Xg.ops_op (by kernel_rfl) (Xg.opx_pure ((iv ((1 : Int) + (↑xx1 : Int)))) rfl (fun _ => by kernel_rfl) ?_)
            refine Xg.ops_op (by kernel_rfl) (Xg.opx_pure (.bool (decide ((((↑l : Int)) : Int) < ((1 : Int) + (↑xx1 : Int))))) rfl (fun _ => by kernel_rfl) ?_)
            refine Xg.ops_op (by kernel_rfl) (Xg.opx_pure ((Value.bool (decide ((↑l : Int) < (1 : Int) + (↑xx1 : Int))))) rfl (fun _ => by kernel_rfl) ?_)
            refine Xg.ops_flag (j := 59) (c := (decide ((↑l : Int) < (1 : Int) + (↑xx1 : Int)))) (by kernel_rfl) (fun xh4 => absurd (of_decide_eq_true xh4) (by omega)) (fun _ => ?_)
            refine Xg.ops_skip (by kernel_rfl) ?_
            refine Xg.ops_skip (by kernel_rfl) ?_
            refine Xg.ops_skip (by kernel_rfl) ?_
            refine Xg.ops_skip (by kernel_rfl) ?_
            refine Xg.ops_op (by kernel_rfl) (Xg.opx_pure ((Value.bool false)) rfl (fun _ => by kernel_rfl) ?_)
            refine Xg.ops_nil ?_
            refine Xg.at_false (t := false) (by kernel_rfl) rfl ?_
            refine Xg.at_exit rfl ?_
            refine Xg.at_seq ?_
            refine Xg.at_seq ?_
            refine Xg.at_region ?_
            refine Xg.ops_op (by kernel_rfl) (Xg.opx_pure ((iv (↑xx3 : Int))) rfl (fun _ => by kernel_rfl) ?_)
            refine Xg.ops_op (by kernel_rfl) (Xg.opx_pure ((iv ((1 : Int) + (↑xx1 : Int)))) rfl (fun _ => by kernel_rfl) ?_)
            refine Xg.ops_op (by kernel_rfl) (Xg.opx_pure (.bool (decide ((((↑xx3 : Int)) : Int) < ((1 : Int) + (↑xx1 : Int))))) rfl (fun _ => by kernel_rfl) ?_)
            refine Xg.ops_op (by kernel_rfl) (Xg.opx_pure ((Value.bool (decide ((↑xx3 : Int) < (1 : Int) + (↑xx1 : Int))))) rfl (fun _ => by kernel_rfl) ?_)
            refine Xg.ops_flag (j := 70) (c := (decide ((↑xx3 : Int) < (1 : Int) + (↑xx1 : Int)))) (by kernel_rfl) (fun _ => ?_) (fun xh4 => absurd (of_decide_eq_false xh4) (by omega))
            refine Xg.ops_op (by kernel_rfl) (Xg.opx_pure ((Value.slice (some (Addr.mk ob (0 : Nat) none)) ((1 : Nat) + xx1) ((1 : Nat) + xx1))) rfl (fun _ => by kernel_rfl) ?_)
            refine Xg.ops_op (by kernel_rfl) (Xg.opx_pure ((iv (↑xx3 : Int))) rfl (fun _ => by kernel_rfl) ?_)
            refine Xg.ops_op (by kernel_rfl) (Xg.opx_run (.pointer (some (Addr.mk ob xx3 none))) rfl (Xg.run_ix_slice' (elem := 4) (b := ob) (off := ((0 : Nat))) (len := ((1 : Nat) + xx1)) (cap := ((1 : Nat) + xx1)) (kd := .i64) (e := ((↑xx3 : Int))) 1 xx3 xx3 (by kernel_rfl) (by kernel_rfl) (by kernel_rfl) (by kernel_rfl) rfl (by omega) (by omega)) ?_)
            refine Xg.ops_op (by kernel_rfl) (Xg.opx_load (b := ob) (off := xx3) 1 (Value.bool true) rfl (by kernel_rfl) (@hg2 ) (by kernel_rfl) ?_)
            refine Xg.ops_op (by kernel_rfl) (Xg.opx_pure ((Value.bool true)) rfl (fun _ => by kernel_rfl) ?_)
            refine Xg.ops_nil ?_
            refine Xg.at_true (t := true) (by kernel_rfl) rfl ?_
            refine Xg.at_seq ?_
            refine Xg.at_region ?_
            refine Xg.ops_op (by kernel_rfl) (Xg.opx_pure ((pv xx2 0)) rfl (fun _ => by kernel_rfl) ?_)
            refine Xg.ops_op (by kernel_rfl) (Xg.opx_pure ((iv (↑xx3 : Int))) rfl (fun _ => by kernel_rfl) ?_)
            refine Xg.ops_op (by kernel_rfl) (Xg.opx_call1' [0] [PoolP xx2 ((1 : Nat) + xx1) (upd u xx3 none), row ob (4 : TypeId) (bcs ((1 : Nat) + xx1) gg), A] (fun _ => by kernel_rfl) (@hc1 ) (by kernel_rfl) (by kernel_rfl) (by kernel_rfl) ?_)
            refine Xg.ops_op (by kernel_rfl) (Xg.opx_pure ((Value.tuple #[iv 0, iv 0])) rfl (fun _ => by kernel_rfl) ?_)
            refine Xg.ops_op (by kernel_rfl) (Xg.opx_pure ((iv 0)) rfl (fun _ => by kernel_rfl) ?_)
            refine Xg.ops_op (by kernel_rfl) (Xg.opx_pure ((iv 0)) rfl (fun _ => by kernel_rfl) ?_)
            refine Xg.ops_op (by kernel_rfl) (Xg.opx_pure ((iv 0)) rfl (fun _ => by kernel_rfl) ?_)
            refine Xg.ops_op (by kernel_rfl) (Xg.opx_pure ((iv 0)) rfl (fun _ => by kernel_rfl) ?_)
            refine Xg.ops_nil ?_
            refine Xg.at_seq ?_
            refine Xg.at_region ?_
            refine Xg.ops_op (by kernel_rfl) (Xg.opx_pure ((pv xx2 0)) rfl (fun _ => by kernel_rfl) ?_)
            refine Xg.ops_op (by kernel_rfl) (Xg.opx_pure ((iv (↑xx3 : Int))) rfl (fun _ => by kernel_rfl) ?_)
            refine Xg.ops_op (by kernel_rfl) (Xg.opx_call1' [0] [PoolP xx2 ((1 : Nat) + xx1) (upd u xx3 none), row ob (4 : TypeId) (bcs ((1 : Nat) + xx1) gg), A] (fun _ => by kernel_rfl) (@hc2 ) (by kernel_rfl) (by kernel_rfl) (by kernel_rfl) ?_)
            refine Xg.ops_op (by kernel_rfl) (Xg.opx_pure ((Value.tuple #[iv 0, iv 94])) rfl (fun _ => by kernel_rfl) ?_)
            refine Xg.ops_op (by kernel_rfl) (Xg.opx_pure ((iv 0)) rfl (fun _ => by kernel_rfl) ?_)
            refine Xg.ops_op (by kernel_rfl) (Xg.opx_pure ((iv 94)) rfl (fun _ => by kernel_rfl) ?_)
            refine Xg.ops_op (by kernel_rfl) (Xg.opx_pure ((iv 0)) rfl (fun _ => by kernel_rfl) ?_)
            refine Xg.ops_op (by kernel_rfl) (Xg.opx_pure ((iv 94)) rfl (fun _ => by kernel_rfl) ?_)
            refine Xg.ops_nil ?_
            refine Xg.at_seq ?_
            refine Xg.at_seq ?_
            refine Xg.at_region ?_
            refine Xg.ops_op (by kernel_rfl) (Xg.opx_pure ((iv 0)) rfl (fun _ => by kernel_rfl) ?_)
            refine Xg.ops_op (by kernel_rfl) (Xg.opx_pure ((Value.bool false)) rfl (fun _ => by kernel_rfl) ?_)
            refine Xg.ops_op (by kernel_rfl) (Xg.opx_pure ((Value.bool false)) rfl (fun _ => by kernel_rfl) ?_)
            refine Xg.ops_op (by kernel_rfl) (Xg.opx_pure ((iv 94)) rfl (fun _ => by kernel_rfl) ?_)
            refine Xg.ops_op (by kernel_rfl) (Xg.opx_pure ((Value.bool false)) rfl (fun _ => by kernel_rfl) ?_)
            refine Xg.ops_op (by kernel_rfl) (Xg.opx_pure ((Value.bool false)) rfl (fun _ => by kernel_rfl) ?_)
            refine Xg.ops_nil ?_
            refine Xg.at_false (t := false) (by kernel_rfl) rfl ?_
            refine Xg.at_skip ?_
            refine Xg.at_seq ?_
            refine Xg.at_region ?_
            refine Xg.ops_op (by kernel_rfl) (Xg.opx_pure ((Value.slice (some (Addr.mk ob (0 : Nat) none)) ((1 : Nat) + xx1) ((1 : Nat) + xx1))) rfl (fun _ => by kernel_rfl) ?_)
            refine Xg.ops_op (by kernel_rfl) (Xg.opx_pure ((iv (↑xx3 : Int))) rfl (fun _ => by kernel_rfl) ?_)
            refine Xg.ops_op (by kernel_rfl) (Xg.opx_run (.pointer (some (Addr.mk ob xx3 none))) rfl (Xg.run_ix_slice' (elem := 4) (b := ob) (off := ((0 : Nat))) (len := ((1 : Nat) + xx1)) (cap := ((1 : Nat) + xx1)) (kd := .i64) (e := ((↑xx3 : Int))) 1 xx3 xx3 (by kernel_rfl) (by kernel_rfl) (by kernel_rfl) (by kernel_rfl) rfl (by omega) (by omega)) ?_)
            refine Xg.ops_op (by kernel_rfl) (Xg.opx_store_c (off := xx3) (cs' := (bcs ((1 : Nat) + xx1) (upd gg xx3 false))) 1 (Value.bool false) (by kernel_rfl) rfl (by kernel_rfl) (by kernel_rfl) (by kernel_rfl) (@Go.Proofs.Ytmplimmcjdkhlaa.s_b (((1 : Nat) + xx1)) (gg) (xx3) (false) (by omega)) ?_)
            refine Xg.ops_nil ?_
            refine Xg.at_exit rfl ?_
            refine Xg.at_region ?_
            refine Xg.ops_op (by kernel_rfl) (Xg.opx_pure ((iv (↑i : Int))) rfl (fun _ => by kernel_rfl) ?_)
            refine Xg.ops_op (by kernel_rfl) (Xg.opx_int .i64 (IntKind.wrap .i64 (((↑i : Int) + (1 : Int)))) rfl (fun _ => by kernel_rfl) (Xg.wrap_i64_in (by omega)) ?_)
            refine Xg.ops_op (by kernel_rfl) (Xg.opx_pure ((iv ((↑i : Int) + (1 : Int)))) rfl (fun _ => by kernel_rfl) ?_)
            refine Xg.ops_nil ?_
            refine Xg.at_inLoop ?_)
          (focus
            refine Xg.at_keep [0, 1, 2] (by kernel_rfl) ?_
            refine Xs.same ?_ (fun J9 => ih (((i + 1, upd u xx3 none, upd gg xx3 false)), J9) ?_ ?_) (by kernel_rfl))
          · rfl
          · exact ⟨by dsimp only; omega, inv_set hI xx3 none false rfl⟩
          · dsimp only; omega
      · by_cases hln : l < (1 + xx1)
        · have hgl : gg l = false := by cases e : gg l with | false => rfl | true => exact absurd ⟨hln, e⟩ hgo
          have hul : u l = none := by have h1 := hI l hln; rw [hgl] at h1; cases e : u l with | none => rfl | some b => rw [e] at h1; cases h1
          have hg1 := g_f (1 + xx1) gg l hln hgl
          have ho := open_ok xx2 (1 + xx1) u l (by omega) hln hul hopen
          by_cases hk1 : xx3 < (1 + xx1)
          · have hg2 := g_f (1 + xx1) gg xx3 hk1 (by cases e : gg xx3 with | false => rfl | true => exact absurd ⟨hk1, e⟩ hk)
            (focus
              refine Xg.at_seq ?_
              refine Xg.at_seq ?_
              refine Xg.at_region ?_
              refine Xg.ops_op (by kernel_rfl) (Xg.opx_pure ((iv (↑l : Int))) rfl (fun _ => by kernel_rfl) ?_)
              refine Xg.ops_op (by kernel_rfl) (Xg.opx_pure ((iv ((1 : Int) + (↑xx1 : Int)))) rfl (fun _ => by kernel_rfl) ?_)
              refine Xg.ops_op (by kernel_rfl) (Xg.opx_pure (.bool (decide ((((↑l : Int)) : Int) < ((1 : Int) + (↑xx1 : Int))))) rfl (fun _ => by kernel_rfl) ?_)
              refine Xg.ops_op (by kernel_rfl) (Xg.opx_pure ((Value.bool (decide ((↑l : Int) < (1 : Int) + (↑xx1 : Int))))) rfl (fun _ => by kernel_rfl) ?_)
              refine Xg.ops_flag (j := 59) (c := (decide ((↑l : Int) < (1 : Int) + (↑xx1 : Int)))) (by kernel_rfl) (fun _ => ?_) (fun xh4 => absurd (of_decide_eq_false xh4) (by omega))
              refine Xg.ops_op (by kernel_rfl) (Xg.opx_pure ((Value.slice (some (Addr.mk ob (0 : Nat) none)) ((1 : Nat) + xx1) ((1 : Nat) + xx1))) rfl (fun _ => by kernel_rfl) ?_)
              refine Xg.ops_op (by kernel_rfl) (Xg.opx_pure ((iv (↑l : Int))) rfl (fun _ => by kernel_rfl) ?_)
              refine Xg.ops_op (by kernel_rfl) (Xg.opx_run (.pointer (some (Addr.mk ob l none))) rfl (Xg.run_ix_slice' (elem := 4) (b := ob) (off := ((0 : Nat))) (len := ((1 : Nat) + xx1)) (cap := ((1 : Nat) + xx1)) (kd := .i64) (e := ((↑l : Int))) 1 l l (by kernel_rfl) (by kernel_rfl) (by kernel_rfl) (by kernel_rfl) rfl (by omega) (by omega)) ?_)
              refine Xg.ops_op (by kernel_rfl) (Xg.opx_load (b := ob) (off := l) 1 (Value.bool false) rfl (by kernel_rfl) (@hg1 ) (by kernel_rfl) ?_)
              refine Xg.ops_op (by kernel_rfl) (Xg.opx_pure ((Value.bool false)) rfl (fun _ => by kernel_rfl) ?_)
              refine Xg.ops_nil ?_
              refine Xg.at_false (t := false) (by kernel_rfl) rfl ?_
              refine Xg.at_exit rfl ?_
              refine Xg.at_seq ?_
              refine Xg.at_seq ?_
              refine Xg.at_region ?_
              refine Xg.ops_op (by kernel_rfl) (Xg.opx_pure ((iv (↑xx3 : Int))) rfl (fun _ => by kernel_rfl) ?_)
              refine Xg.ops_op (by kernel_rfl) (Xg.opx_pure ((iv ((1 : Int) + (↑xx1 : Int)))) rfl (fun _ => by kernel_rfl) ?_)
              refine Xg.ops_op (by kernel_rfl) (Xg.opx_pure (.bool (decide ((((↑xx3 : Int)) : Int) < ((1 : Int) + (↑xx1 : Int))))) rfl (fun _ => by kernel_rfl) ?_)
              refine Xg.ops_op (by kernel_rfl) (Xg.opx_pure ((Value.bool (decide ((↑xx3 : Int) < (1 : Int) + (↑xx1 : Int))))) rfl (fun _ => by kernel_rfl) ?_)
              refine Xg.ops_flag (j := 70) (c := (decide ((↑xx3 : Int) < (1 : Int) + (↑xx1 : Int)))) (by kernel_rfl) (fun _ => ?_) (fun xh4 => absurd (of_decide_eq_false xh4) (by omega))
              refine Xg.ops_op (by kernel_rfl) (Xg.opx_pure ((Value.slice (some (Addr.mk ob (0 : Nat) none)) ((1 : Nat) + xx1) ((1 : Nat) + xx1))) rfl (fun _ => by kernel_rfl) ?_)
              refine Xg.ops_op (by kernel_rfl) (Xg.opx_pure ((iv (↑xx3 : Int))) rfl (fun _ => by kernel_rfl) ?_)
              refine Xg.ops_op (by kernel_rfl) (Xg.opx_run (.pointer (some (Addr.mk ob xx3 none))) rfl (Xg.run_ix_slice' (elem := 4) (b := ob) (off := ((0 : Nat))) (len := ((1 : Nat) + xx1)) (cap := ((1 : Nat) + xx1)) (kd := .i64) (e := ((↑xx3 : Int))) 1 xx3 xx3 (by kernel_rfl) (by kernel_rfl) (by kernel_rfl) (by kernel_rfl) rfl (by omega) (by omega)) ?_)
              refine Xg.ops_op (by kernel_rfl) (Xg.opx_load (b := ob) (off := xx3) 1 (Value.bool false) rfl (by kernel_rfl) (@hg2 ) (by kernel_rfl) ?_)
              refine Xg.ops_op (by kernel_rfl) (Xg.opx_pure ((Value.bool false)) rfl (fun _ => by kernel_rfl) ?_)
              refine Xg.ops_nil ?_
              refine Xg.at_false (t := false) (by kernel_rfl) rfl ?_
              refine Xg.at_skip ?_
              refine Xg.at_seq ?_
              refine Xg.at_region ?_
              refine Xg.ops_op (by kernel_rfl) (Xg.opx_pure ((pv xx2 0)) rfl (fun _ => by kernel_rfl) ?_)
              refine Xg.ops_op (by kernel_rfl) (Xg.opx_callE' [0] (fun xx4 => [PoolP xx2 ((1 : Nat) + xx1) (upd u l (some xx4)), row ob (4 : TypeId) (bcs ((1 : Nat) + xx1) gg), A]) (fun _ => by kernel_rfl) (@ho ) (by kernel_rfl) (by kernel_rfl) (by kernel_rfl) fun xx4 xh4 => ?_)
              try dsimp only at xh4
              refine Xg.ops_op (by kernel_rfl) (Xg.opx_pure ((Value.tuple #[iv (↑l : Int), iv 0])) rfl (fun _ => by kernel_rfl) ?_)
              refine Xg.ops_op (by kernel_rfl) (Xg.opx_pure ((iv (↑l : Int))) rfl (fun _ => by kernel_rfl) ?_)
              refine Xg.ops_op (by kernel_rfl) (Xg.opx_pure ((iv 0)) rfl (fun _ => by kernel_rfl) ?_)
              refine Xg.ops_op (by kernel_rfl) (Xg.opx_pure ((iv (↑l : Int))) rfl (fun _ => by kernel_rfl) ?_)
              refine Xg.ops_op (by kernel_rfl) (Xg.opx_pure ((iv 0)) rfl (fun _ => by kernel_rfl) ?_)
              refine Xg.ops_nil ?_
              refine Xg.at_seq ?_
              refine Xg.at_seq ?_
              refine Xg.at_region ?_
              refine Xg.ops_op (by kernel_rfl) (Xg.opx_pure ((iv (↑l : Int))) rfl (fun _ => by kernel_rfl) ?_)
              refine Xg.ops_op (by kernel_rfl) (Xg.opx_pure ((iv ((1 : Int) + (↑xx1 : Int)))) rfl (fun _ => by kernel_rfl) ?_)
              refine Xg.ops_op (by kernel_rfl) (Xg.opx_pure (.bool (decide ((((↑l : Int)) : Int) = ((1 : Int) + (↑xx1 : Int))))) rfl (fun _ => by kernel_rfl) ?_)
              refine Xg.ops_nil ?_
              refine Xg.at_false (t := decide (((↑l : Int) = (1 : Int) + (↑xx1 : Int)))) (by kernel_rfl) (decide_eq_false (by omega)) ?_
              refine Xg.at_skip ?_
              refine Xg.at_seq ?_
              refine Xg.at_seq ?_
              refine Xg.at_region ?_
              refine Xg.ops_op (by kernel_rfl) (Xg.opx_pure ((iv 0)) rfl (fun _ => by kernel_rfl) ?_)
              refine Xg.ops_op (by kernel_rfl) (Xg.opx_pure ((Value.bool false)) rfl (fun _ => by kernel_rfl) ?_)
              refine Xg.ops_op (by kernel_rfl) (Xg.opx_pure ((Value.bool false)) rfl (fun _ => by kernel_rfl) ?_)
              refine Xg.ops_op (by kernel_rfl) (Xg.opx_pure ((iv (↑l : Int))) rfl (fun _ => by kernel_rfl) ?_)
              refine Xg.ops_op (by kernel_rfl) (Xg.opx_pure ((iv (↑l : Int))) rfl (fun _ => by kernel_rfl) ?_)
              refine Xg.ops_op (by kernel_rfl) (Xg.opx_pure (.bool (!decide ((((↑l : Int)) : Int) = ((↑l : Int))))) rfl (fun _ => by kernel_rfl) ?_)
              refine Xg.ops_flag (j := 112) (c := (!decide ((↑l : Int) = (↑l : Int)))) (by kernel_rfl) (fun xh5 => absurd xh5 (by rw [decide_eq_true (p := ((↑l : Int) = (↑l : Int))) (by omega)]; decide)) (fun _ => ?_)
              refine Xg.ops_op (by kernel_rfl) (Xg.opx_pure ((Value.bool false)) rfl (fun _ => by kernel_rfl) ?_)
              refine Xg.ops_nil ?_
              refine Xg.at_false (t := false) (by kernel_rfl) rfl ?_
              refine Xg.at_skip ?_
              refine Xg.at_region ?_
              refine Xg.ops_op (by kernel_rfl) (Xg.opx_pure ((Value.slice (some (Addr.mk ob (0 : Nat) none)) ((1 : Nat) + xx1) ((1 : Nat) + xx1))) rfl (fun _ => by kernel_rfl) ?_)
              refine Xg.ops_op (by kernel_rfl) (Xg.opx_pure ((iv (↑l : Int))) rfl (fun _ => by kernel_rfl) ?_)
              refine Xg.ops_op (by kernel_rfl) (Xg.opx_run (.pointer (some (Addr.mk ob l none))) rfl (Xg.run_ix_slice' (elem := 4) (b := ob) (off := ((0 : Nat))) (len := ((1 : Nat) + xx1)) (cap := ((1 : Nat) + xx1)) (kd := .i64) (e := ((↑l : Int))) 1 l l (by kernel_rfl) (by kernel_rfl) (by kernel_rfl) (by kernel_rfl) rfl (by omega) (by omega)) ?_)
              refine Xg.ops_op (by kernel_rfl) (Xg.opx_store_c (off := l) (cs' := (bcs ((1 : Nat) + xx1) (upd gg l true))) 1 (Value.bool true) (by kernel_rfl) rfl (by kernel_rfl) (by kernel_rfl) (by kernel_rfl) (@Go.Proofs.Ytmplimmcjdkhlaa.s_b (((1 : Nat) + xx1)) (gg) (l) (true) (by omega)) ?_)
              refine Xg.ops_nil ?_
              refine Xg.at_inBlock ?_
              refine Xg.at_region ?_
              refine Xg.ops_op (by kernel_rfl) (Xg.opx_pure ((iv (↑i : Int))) rfl (fun _ => by kernel_rfl) ?_)
              refine Xg.ops_op (by kernel_rfl) (Xg.opx_int .i64 (IntKind.wrap .i64 (((↑i : Int) + (1 : Int)))) rfl (fun _ => by kernel_rfl) (Xg.wrap_i64_in (by omega)) ?_)
              refine Xg.ops_op (by kernel_rfl) (Xg.opx_pure ((iv ((↑i : Int) + (1 : Int)))) rfl (fun _ => by kernel_rfl) ?_)
              refine Xg.ops_nil ?_
              refine Xg.at_inLoop ?_)
            (focus
              refine Xg.at_keep [0, 1, 2] (by kernel_rfl) ?_
              refine Xs.same ?_ (fun J9 => ih (((i + 1, upd u l (some xx4), upd gg l true)), J9) ?_ ?_) (by kernel_rfl))
            · rfl
            · exact ⟨by dsimp only; omega, inv_set hI l (some xx4) true rfl⟩
            · dsimp only; omega
          · (focus
              refine Xg.at_seq ?_
              refine Xg.at_seq ?_
              refine Xg.at_region ?_
              refine Xg.ops_op (by kernel_rfl) (Xg.opx_pure ((iv (↑l : Int))) rfl (fun _ => by kernel_rfl) ?_)
              refine Xg.ops_op (by kernel_rfl) (Xg.opx_pure ((iv ((1 : Int) + (↑xx1 : Int)))) rfl (fun _ => by kernel_rfl) ?_)
              refine Xg.ops_op (by kernel_rfl) (Xg.opx_pure (.bool (decide ((((↑l : Int)) : Int) < ((1 : Int) + (↑xx1 : Int))))) rfl (fun _ => by kernel_rfl) ?_)
              refine Xg.ops_op (by kernel_rfl) (Xg.opx_pure ((Value.bool (decide ((↑l : Int) < (1 : Int) + (↑xx1 : Int))))) rfl (fun _ => by kernel_rfl) ?_)
              refine Xg.ops_flag (j := 59) (c := (decide ((↑l : Int) < (1 : Int) + (↑xx1 : Int)))) (by kernel_rfl) (fun _ => ?_) (fun xh4 => absurd (of_decide_eq_false xh4) (by omega))
              refine Xg.ops_op (by kernel_rfl) (Xg.opx_pure ((Value.slice (some (Addr.mk ob (0 : Nat) none)) ((1 : Nat) + xx1) ((1 : Nat) + xx1))) rfl (fun _ => by kernel_rfl) ?_)
              refine Xg.ops_op (by kernel_rfl) (Xg.opx_pure ((iv (↑l : Int))) rfl (fun _ => by kernel_rfl) ?_)
              refine Xg.ops_op (by kernel_rfl) (Xg.opx_run (.pointer (some (Addr.mk ob l none))) rfl (Xg.run_ix_slice' (elem := 4) (b := ob) (off := ((0 : Nat))) (len := ((1 : Nat) + xx1)) (cap := ((1 : Nat) + xx1)) (kd := .i64) (e := ((↑l : Int))) 1 l l (by kernel_rfl) (by kernel_rfl) (by kernel_rfl) (by kernel_rfl) rfl (by omega) (by omega)) ?_)
              refine Xg.ops_op (by kernel_rfl) (Xg.opx_load (b := ob) (off := l) 1 (Value.bool false) rfl (by kernel_rfl) (@hg1 ) (by kernel_rfl) ?_)
              refine Xg.ops_op (by kernel_rfl) (Xg.opx_pure ((Value.bool false)) rfl (fun _ => by kernel_rfl) ?_)
              refine Xg.ops_nil ?_
              refine Xg.at_false (t := false) (by kernel_rfl) rfl ?_
              refine Xg.at_exit rfl ?_
              refine Xg.at_seq ?_
              refine Xg.at_seq ?_
              refine Xg.at_region ?_
              refine Xg.ops_op (by kernel_rfl) (Xg.opx_pure ((iv (↑xx3 : Int))) rfl (fun _ => by kernel_rfl) ?_)
              refine Xg.ops_op (by kernel_rfl) (Xg.opx_pure ((iv ((1 : Int) + (↑xx1 : Int)))) rfl (fun _ => by kernel_rfl) ?_)
              refine Xg.ops_op (by kernel_rfl) (Xg.opx_pure (.bool (decide ((((↑xx3 : Int)) : Int) < ((1 : Int) + (↑xx1 : Int))))) rfl (fun _ => by kernel_rfl) ?_)
              refine Xg.ops_op (by kernel_rfl) (Xg.opx_pure ((Value.bool (decide ((↑xx3 : Int) < (1 : Int) + (↑xx1 : Int))))) rfl (fun _ => by kernel_rfl) ?_)
              refine Xg.ops_flag (j := 70) (c := (decide ((↑xx3 : Int) < (1 : Int) + (↑xx1 : Int)))) (by kernel_rfl) (fun xh4 => absurd (of_decide_eq_true xh4) (by omega)) (fun _ => ?_)
              refine Xg.ops_skip (by kernel_rfl) ?_
              refine Xg.ops_skip (by kernel_rfl) ?_
              refine Xg.ops_skip (by kernel_rfl) ?_
              refine Xg.ops_skip (by kernel_rfl) ?_
              refine Xg.ops_op (by kernel_rfl) (Xg.opx_pure ((Value.bool false)) rfl (fun _ => by kernel_rfl) ?_)
              refine Xg.ops_nil ?_
              refine Xg.at_false (t := false) (by kernel_rfl) rfl ?_
              refine Xg.at_skip ?_
              refine Xg.at_seq ?_
              refine Xg.at_region ?_
              refine Xg.ops_op (by kernel_rfl) (Xg.opx_pure ((pv xx2 0)) rfl (fun _ => by kernel_rfl) ?_)
              refine Xg.ops_op (by kernel_rfl) (Xg.opx_callE' [0] (fun xx4 => [PoolP xx2 ((1 : Nat) + xx1) (upd u l (some xx4)), row ob (4 : TypeId) (bcs ((1 : Nat) + xx1) gg), A]) (fun _ => by kernel_rfl) (@ho ) (by kernel_rfl) (by kernel_rfl) (by kernel_rfl) fun xx4 xh4 => ?_)
              try dsimp only at xh4
              refine Xg.ops_op (by kernel_rfl) (Xg.opx_pure ((Value.tuple #[iv (↑l : Int), iv 0])) rfl (fun _ => by kernel_rfl) ?_)
              refine Xg.ops_op (by kernel_rfl) (Xg.opx_pure ((iv (↑l : Int))) rfl (fun _ => by kernel_rfl) ?_)
              refine Xg.ops_op (by kernel_rfl) (Xg.opx_pure ((iv 0)) rfl (fun _ => by kernel_rfl) ?_)
              refine Xg.ops_op (by kernel_rfl) (Xg.opx_pure ((iv (↑l : Int))) rfl (fun _ => by kernel_rfl) ?_)
              refine Xg.ops_op (by kernel_rfl) (Xg.opx_pure ((iv 0)) rfl (fun _ => by kernel_rfl) ?_)
              refine Xg.ops_nil ?_
              refine Xg.at_seq ?_
              refine Xg.at_seq ?_
              refine Xg.at_region ?_
              refine Xg.ops_op (by kernel_rfl) (Xg.opx_pure ((iv (↑l : Int))) rfl (fun _ => by kernel_rfl) ?_)
              refine Xg.ops_op (by kernel_rfl) (Xg.opx_pure ((iv ((1 : Int) + (↑xx1 : Int)))) rfl (fun _ => by kernel_rfl) ?_)
              refine Xg.ops_op (by kernel_rfl) (Xg.opx_pure (.bool (decide ((((↑l : Int)) : Int) = ((1 : Int) + (↑xx1 : Int))))) rfl (fun _ => by kernel_rfl) ?_)
              refine Xg.ops_nil ?_
              refine Xg.at_false (t := decide (((↑l : Int) = (1 : Int) + (↑xx1 : Int)))) (by kernel_rfl) (decide_eq_false (by omega)) ?_
              refine Xg.at_skip ?_
              refine Xg.at_seq ?_
              refine Xg.at_seq ?_
              refine Xg.at_region ?_
              refine Xg.ops_op (by kernel_rfl) (Xg.opx_pure ((iv 0)) rfl (fun _ => by kernel_rfl) ?_)
              refine Xg.ops_op (by kernel_rfl) (Xg.opx_pure ((Value.bool false)) rfl (fun _ => by kernel_rfl) ?_)
              refine Xg.ops_op (by kernel_rfl) (Xg.opx_pure ((Value.bool false)) rfl (fun _ => by kernel_rfl) ?_)
              refine Xg.ops_op (by kernel_rfl) (Xg.opx_pure ((iv (↑l : Int))) rfl (fun _ => by kernel_rfl) ?_)
              refine Xg.ops_op (by kernel_rfl) (Xg.opx_pure ((iv (↑l : Int))) rfl (fun _ => by kernel_rfl) ?_)
              refine Xg.ops_op (by kernel_rfl) (Xg.opx_pure (.bool (!decide ((((↑l : Int)) : Int) = ((↑l : Int))))) rfl (fun _ => by kernel_rfl) ?_)
              refine Xg.ops_flag (j := 112) (c := (!decide ((↑l : Int) = (↑l : Int)))) (by kernel_rfl) (fun xh5 => absurd xh5 (by rw [decide_eq_true (p := ((↑l : Int) = (↑l : Int))) (by omega)]; decide)) (fun _ => ?_)
              refine Xg.ops_op (by kernel_rfl) (Xg.opx_pure ((Value.bool false)) rfl (fun _ => by kernel_rfl) ?_)
              refine Xg.ops_nil ?_
              refine Xg.at_false (t := false) (by kernel_rfl) rfl ?_
              refine Xg.at_skip ?_
              refine Xg.at_region ?_
              refine Xg.ops_op (by kernel_rfl) (Xg.opx_pure ((Value.slice (some (Addr.mk ob (0 : Nat) none)) ((1 : Nat) + xx1) ((1 : Nat) + xx1))) rfl (fun _ => by kernel_rfl) ?_)
              refine Xg.ops_op (by kernel_rfl) (Xg.opx_pure ((iv (↑l : Int))) rfl (fun _ => by kernel_rfl) ?_)
              refine Xg.ops_op (by kernel_rfl) (Xg.opx_run (.pointer (some (Addr.mk ob l none))) rfl (Xg.run_ix_slice' (elem := 4) (b := ob) (off := ((0 : Nat))) (len := ((1 : Nat) + xx1)) (cap := ((1 : Nat) + xx1)) (kd := .i64) (e := ((↑l : Int))) 1 l l (by kernel_rfl) (by kernel_rfl) (by kernel_rfl) (by kernel_rfl) rfl (by omega) (by omega)) ?_)
              refine Xg.ops_op (by kernel_rfl) (Xg.opx_store_c (off := l) (cs' := (bcs ((1 : Nat) + xx1) (upd gg l true))) 1 (Value.bool true) (by kernel_rfl) rfl (by kernel_rfl) (by kernel_rfl) (by kernel_rfl) (@Go.Proofs.Ytmplimmcjdkhlaa.s_b (((1 : Nat) + xx1)) (gg) (l) (true) (by omega)) ?_)
              refine Xg.ops_nil ?_
              refine Xg.at_inBlock ?_
              refine Xg.at_region ?_
              refine Xg.ops_op (by kernel_rfl) (Xg.opx_pure ((iv (↑i : Int))) rfl (fun _ => by kernel_rfl) ?_)
              refine Xg.ops_op (by kernel_rfl) (Xg.opx_int .i64 (IntKind.wrap .i64 (((↑i : Int) + (1 : Int)))) rfl (fun _ => by kernel_rfl) (Xg.wrap_i64_in (by omega)) ?_)
              refine Xg.ops_op (by kernel_rfl) (Xg.opx_pure ((iv ((↑i : Int) + (1 : Int)))) rfl (fun _ => by kernel_rfl) ?_)
              refine Xg.ops_nil ?_
              refine Xg.at_inLoop ?_)
            (focus
              refine Xg.at_keep [0, 1, 2] (by kernel_rfl) ?_
              refine Xs.same ?_ (fun J9 => ih (((i + 1, upd u l (some xx4), upd gg l true)), J9) ?_ ?_) (by kernel_rfl))
            · rfl
            · exact ⟨by dsimp only; omega, inv_set hI l (some xx4) true rfl⟩
            · dsimp only; omega
        · have ho := open_full xx2 (1 + xx1) u (by omega) (fun q hq => hopen q (by omega))
          by_cases hk1 : xx3 < (1 + xx1)
          · have hg2 := g_f (1 + xx1) gg xx3 hk1 (by cases e : gg xx3 with | false => rfl | true => exact absurd ⟨hk1, e⟩ hk)
            (focus
              refine Xg.at_seq ?_
              refine Xg.at_seq ?_
              refine Xg.at_region ?_
              refine Xg.ops_op (by kernel_rfl) (Xg.opx_pure ((iv (↑l : Int))) rfl (fun _ => by kernel_rfl) ?_)
              refine Xg.ops_op (by kernel_rfl) (Xg.opx_pure ((iv ((1 : Int) + (↑xx1 : Int)))) rfl (fun _ => by kernel_rfl) ?_)
              refine Xg.ops_op (by kernel_rfl) (Xg.opx_pure (.bool (decide ((((↑l : Int)) : Int) < ((1 : Int) + (↑xx1 : Int))))) rfl (fun _ => by kernel_rfl) ?_)
              refine Xg.ops_op (by kernel_rfl) (Xg.opx_pure ((Value.bool (decide ((↑l : Int) < (1 : Int) + (↑xx1 : Int))))) rfl (fun _ => by kernel_rfl) ?_)
              refine Xg.ops_flag (j := 59) (c := (decide ((↑l : Int) < (1 : Int) + (↑xx1 : Int)))) (by kernel_rfl) (fun xh4 => absurd (of_decide_eq_true xh4) (by omega)) (fun _ => ?_)
              refine Xg.ops_skip (by kernel_rfl) ?_
              refine Xg.ops_skip (by kernel_rfl) ?_
              refine Xg.ops_skip (by kernel_rfl) ?_
              refine Xg.ops_skip (by kernel_rfl) ?_
              refine Xg.ops_op (by kernel_rfl) (Xg.opx_pure ((Value.bool false)) rfl (fun _ => by kernel_rfl) ?_)
              refine Xg.ops_nil ?_
              refine Xg.at_false (t := false) (by kernel_rfl) rfl ?_
              refine Xg.at_exit rfl ?_
              refine Xg.at_seq ?_
              refine Xg.at_seq ?_
              refine Xg.at_region ?_
              refine Xg.ops_op (by kernel_rfl) (Xg.opx_pure ((iv (↑xx3 : Int))) rfl (fun _ => by kernel_rfl) ?_)
              refine Xg.ops_op (by kernel_rfl) (Xg.opx_pure ((iv ((1 : Int) + (↑xx1 : Int)))) rfl (fun _ => by kernel_rfl) ?_)
              refine Xg.ops_op (by kernel_rfl) (Xg.opx_pure (.bool (decide ((((↑xx3 : Int)) : Int) < ((1 : Int) + (↑xx1 : Int))))) rfl (fun _ => by kernel_rfl) ?_)
              refine Xg.ops_op (by kernel_rfl) (Xg.opx_pure ((Value.bool (decide ((↑xx3 : Int) < (1 : Int) + (↑xx1 : Int))))) rfl (fun _ => by kernel_rfl) ?_)
              refine Xg.ops_flag (j := 70) (c := (decide ((↑xx3 : Int) < (1 : Int) + (↑xx1 : Int)))) (by kernel_rfl) (fun _ => ?_) (fun xh4 => absurd (of_decide_eq_false xh4) (by omega))
              refine Xg.ops_op (by kernel_rfl) (Xg.opx_pure ((Value.slice (some (Addr.mk ob (0 : Nat) none)) ((1 : Nat) + xx1) ((1 : Nat) + xx1))) rfl (fun _ => by kernel_rfl) ?_)
              refine Xg.ops_op (by kernel_rfl) (Xg.opx_pure ((iv (↑xx3 : Int))) rfl (fun _ => by kernel_rfl) ?_)
              refine Xg.ops_op (by kernel_rfl) (Xg.opx_run (.pointer (some (Addr.mk ob xx3 none))) rfl (Xg.run_ix_slice' (elem := 4) (b := ob) (off := ((0 : Nat))) (len := ((1 : Nat) + xx1)) (cap := ((1 : Nat) + xx1)) (kd := .i64) (e := ((↑xx3 : Int))) 1 xx3 xx3 (by kernel_rfl) (by kernel_rfl) (by kernel_rfl) (by kernel_rfl) rfl (by omega) (by omega)) ?_)
              refine Xg.ops_op (by kernel_rfl) (Xg.opx_load (b := ob) (off := xx3) 1 (Value.bool false) rfl (by kernel_rfl) (@hg2 ) (by kernel_rfl) ?_)
              refine Xg.ops_op (by kernel_rfl) (Xg.opx_pure ((Value.bool false)) rfl (fun _ => by kernel_rfl) ?_)
              refine Xg.ops_nil ?_
              refine Xg.at_false (t := false) (by kernel_rfl) rfl ?_
              refine Xg.at_skip ?_
              refine Xg.at_seq ?_
              refine Xg.at_region ?_
              refine Xg.ops_op (by kernel_rfl) (Xg.opx_pure ((pv xx2 0)) rfl (fun _ => by kernel_rfl) ?_)
              refine Xg.ops_op (by kernel_rfl) (Xg.opx_call1' [0] [PoolP xx2 ((1 : Nat) + xx1) u, row ob (4 : TypeId) (bcs ((1 : Nat) + xx1) gg), A] (fun _ => by kernel_rfl) (@ho ) (by kernel_rfl) (by kernel_rfl) (by kernel_rfl) ?_)
              refine Xg.ops_op (by kernel_rfl) (Xg.opx_pure ((Value.tuple #[iv 0, iv 93])) rfl (fun _ => by kernel_rfl) ?_)
              refine Xg.ops_op (by kernel_rfl) (Xg.opx_pure ((iv 0)) rfl (fun _ => by kernel_rfl) ?_)
              refine Xg.ops_op (by kernel_rfl) (Xg.opx_pure ((iv 93)) rfl (fun _ => by kernel_rfl) ?_)
              refine Xg.ops_op (by kernel_rfl) (Xg.opx_pure ((iv 0)) rfl (fun _ => by kernel_rfl) ?_)
              refine Xg.ops_op (by kernel_rfl) (Xg.opx_pure ((iv 93)) rfl (fun _ => by kernel_rfl) ?_)
              refine Xg.ops_nil ?_
              refine Xg.at_seq ?_
              refine Xg.at_seq ?_
              refine Xg.at_region ?_
              refine Xg.ops_op (by kernel_rfl) (Xg.opx_pure ((iv (↑l : Int))) rfl (fun _ => by kernel_rfl) ?_)
              refine Xg.ops_op (by kernel_rfl) (Xg.opx_pure ((iv ((1 : Int) + (↑xx1 : Int)))) rfl (fun _ => by kernel_rfl) ?_)
              refine Xg.ops_op (by kernel_rfl) (Xg.opx_pure (.bool (decide ((((↑l : Int)) : Int) = ((1 : Int) + (↑xx1 : Int))))) rfl (fun _ => by kernel_rfl) ?_)
              refine Xg.ops_nil ?_
              refine Xg.at_true (t := decide (((↑l : Int) = (1 : Int) + (↑xx1 : Int)))) (by kernel_rfl) (decide_eq_true (by omega)) ?_
              refine Xg.at_seq ?_
              refine Xg.at_seq ?_
              refine Xg.at_region ?_
              refine Xg.ops_op (by kernel_rfl) (Xg.opx_pure ((iv 93)) rfl (fun _ => by kernel_rfl) ?_)
              refine Xg.ops_op (by kernel_rfl) (Xg.opx_pure ((Value.bool false)) rfl (fun _ => by kernel_rfl) ?_)
              refine Xg.ops_nil ?_
              refine Xg.at_false (t := false) (by kernel_rfl) rfl ?_
              refine Xg.at_skip ?_
              refine Xg.at_exit rfl ?_
              refine Xg.at_region ?_
              refine Xg.ops_op (by kernel_rfl) (Xg.opx_pure ((iv (↑i : Int))) rfl (fun _ => by kernel_rfl) ?_)
              refine Xg.ops_op (by kernel_rfl) (Xg.opx_int .i64 (IntKind.wrap .i64 (((↑i : Int) + (1 : Int)))) rfl (fun _ => by kernel_rfl) (Xg.wrap_i64_in (by omega)) ?_)
              refine Xg.ops_op (by kernel_rfl) (Xg.opx_pure ((iv ((↑i : Int) + (1 : Int)))) rfl (fun _ => by kernel_rfl) ?_)
              refine Xg.ops_nil ?_
              refine Xg.at_inLoop ?_)
            (focus
              refine Xg.at_keep [0, 1, 2] (by kernel_rfl) ?_
              refine Xs.same ?_ (fun J9 => ih (((i + 1, u, gg)), J9) ?_ ?_) (by kernel_rfl))
            · rfl
            · exact ⟨by dsimp only; omega, hI⟩
            · dsimp only; omega
          · (focus
              refine Xg.at_seq ?_
              refine Xg.at_seq ?_
              refine Xg.at_region ?_
              refine Xg.ops_op (by kernel_rfl) (Xg.opx_pure ((iv (↑l : Int))) rfl (fun _ => by kernel_rfl) ?_)
              refine Xg.ops_op (by kernel_rfl) (Xg.opx_pure ((iv ((1 : Int) + (↑xx1 : Int)))) rfl (fun _ => by kernel_rfl) ?_)
              refine Xg.ops_op (by kernel_rfl) (Xg.opx_pure (.bool (decide ((((↑l : Int)) : Int) < ((1 : Int) + (↑xx1 : Int))))) rfl (fun _ => by kernel_rfl) ?_)
              refine Xg.ops_op (by kernel_rfl) (Xg.opx_pure ((Value.bool (decide ((↑l : Int) < (1 : Int) + (↑xx1 : Int))))) rfl (fun _ => by kernel_rfl) ?_)
              refine Xg.ops_flag (j := 59) (c := (decide ((↑l : Int) < (1 : Int) + (↑xx1 : Int)))) (by kernel_rfl) (fun xh4 => absurd (of_decide_eq_true xh4) (by omega)) (fun _ => ?_)
              refine Xg.ops_skip (by kernel_rfl) ?_
              refine Xg.ops_skip (by kernel_rfl) ?_
              refine Xg.ops_skip (by kernel_rfl) ?_
              refine Xg.ops_skip (by kernel_rfl) ?_
              refine Xg.ops_op (by kernel_rfl) (Xg.opx_pure ((Value.bool false)) rfl (fun _ => by kernel_rfl) ?_)
              refine Xg.ops_nil ?_
              refine Xg.at_false (t := false) (by kernel_rfl) rfl ?_
              refine Xg.at_exit rfl ?_
              refine Xg.at_seq ?_
              refine Xg.at_seq ?_
              refine Xg.at_region ?_
              refine Xg.ops_op (by kernel_rfl) (Xg.opx_pure ((iv (↑xx3 : Int))) rfl (fun _ => by kernel_rfl) ?_)
              refine Xg.ops_op (by kernel_rfl) (Xg.opx_pure ((iv ((1 : Int) + (↑xx1 : Int)))) rfl (fun _ => by kernel_rfl) ?_)
              refine Xg.ops_op (by kernel_rfl) (Xg.opx_pure (.bool (decide ((((↑xx3 : Int)) : Int) < ((1 : Int) + (↑xx1 : Int))))) rfl (fun _ => by kernel_rfl) ?_)
              refine Xg.ops_op (by kernel_rfl) (Xg.opx_pure ((Value.bool (decide ((↑xx3 : Int) < (1 : Int) + (↑xx1 : Int))))) rfl (fun _ => by kernel_rfl) ?_)
              refine Xg.ops_flag (j := 70) (c := (decide ((↑xx3 : Int) < (1 : Int) + (↑xx1 : Int)))) (by kernel_rfl) (fun xh4 => absurd (of_decide_eq_true xh4) (by omega)) (fun _ => ?_)
              refine Xg.ops_skip (by kernel_rfl) ?_
              refine Xg.ops_skip (by kernel_rfl) ?_
              refine Xg.ops_skip (by kernel_rfl) ?_
              refine Xg.ops_skip (by kernel_rfl) ?_
              refine Xg.ops_op (by kernel_rfl) (Xg.opx_pure ((Value.bool false)) rfl (fun _ => by kernel_rfl) ?_)
              refine Xg.ops_nil ?_
              refine Xg.at_false (t := false) (by kernel_rfl) rfl ?_
              refine Xg.at_skip ?_
              refine Xg.at_seq ?_
              refine Xg.at_region ?_
              refine Xg.ops_op (by kernel_rfl) (Xg.opx_pure ((pv xx2 0)) rfl (fun _ => by kernel_rfl) ?_)
              refine Xg.ops_op (by kernel_rfl) (Xg.opx_call1' [0] [PoolP xx2 ((1 : Nat) + xx1) u, row ob (4 : TypeId) (bcs ((1 : Nat) + xx1) gg), A] (fun _ => by kernel_rfl) (@ho ) (by kernel_rfl) (by kernel_rfl) (by kernel_rfl) ?_)
              refine Xg.ops_op (by kernel_rfl) (Xg.opx_pure ((Value.tuple #[iv 0, iv 93])) rfl (fun _ => by kernel_rfl) ?_)
              refine Xg.ops_op (by kernel_rfl) (Xg.opx_pure ((iv 0)) rfl (fun _ => by kernel_rfl) ?_)
              refine Xg.ops_op (by kernel_rfl) (Xg.opx_pure ((iv 93)) rfl (fun _ => by kernel_rfl) ?_)
              refine Xg.ops_op (by kernel_rfl) (Xg.opx_pure ((iv 0)) rfl (fun _ => by kernel_rfl) ?_)
              refine Xg.ops_op (by kernel_rfl) (Xg.opx_pure ((iv 93)) rfl (fun _ => by kernel_rfl) ?_)
              refine Xg.ops_nil ?_
              refine Xg.at_seq ?_
              refine Xg.at_seq ?_
              refine Xg.at_region ?_
              refine Xg.ops_op (by kernel_rfl) (Xg.opx_pure ((iv (↑l : Int))) rfl (fun _ => by kernel_rfl) ?_)
              refine Xg.ops_op (by kernel_rfl) (Xg.opx_pure ((iv ((1 : Int) + (↑xx1 : Int)))) rfl (fun _ => by kernel_rfl) ?_)
              refine Xg.ops_op (by kernel_rfl) (Xg.opx_pure (.bool (decide ((((↑l : Int)) : Int) = ((1 : Int) + (↑xx1 : Int))))) rfl (fun _ => by kernel_rfl) ?_)
              refine Xg.ops_nil ?_
              refine Xg.at_true (t := decide (((↑l : Int) = (1 : Int) + (↑xx1 : Int)))) (by kernel_rfl) (decide_eq_true (by omega)) ?_
              refine Xg.at_seq ?_
              refine Xg.at_seq ?_
              refine Xg.at_region ?_
              refine Xg.ops_op (by kernel_rfl) (Xg.opx_pure ((iv 93)) rfl (fun _ => by kernel_rfl) ?_)
              refine Xg.ops_op (by kernel_rfl) (Xg.opx_pure ((Value.bool false)) rfl (fun _ => by kernel_rfl) ?_)
              refine Xg.ops_nil ?_
              refine Xg.at_false (t := false) (by kernel_rfl) rfl ?_
              refine Xg.at_skip ?_
              refine Xg.at_exit rfl ?_
              refine Xg.at_region ?_
              refine Xg.ops_op (by kernel_rfl) (Xg.opx_pure ((iv (↑i : Int))) rfl (fun _ => by kernel_rfl) ?_)
              refine Xg.ops_op (by kernel_rfl) (Xg.opx_int .i64 (IntKind.wrap .i64 (((↑i : Int) + (1 : Int)))) rfl (fun _ => by kernel_rfl) (Xg.wrap_i64_in (by omega)) ?_)
              refine Xg.ops_op (by kernel_rfl) (Xg.opx_pure ((iv ((↑i : Int) + (1 : Int)))) rfl (fun _ => by kernel_rfl) ?_)
              refine Xg.ops_nil ?_
              refine Xg.at_inLoop ?_)
            (focus
              refine Xg.at_keep [0, 1, 2] (by kernel_rfl) ?_
              refine Xs.same ?_ (fun J9 => ih (((i + 1, u, gg)), J9) ?_ ?_) (by kernel_rfl))
            · rfl
            · exact ⟨by dsimp only; omega, hI⟩
            · dsimp only; omega
  · clear ih
    have ho := open_neg xx2 (1 + xx1) u
    (focus
      refine Xg.at_seq ?_
      refine Xg.at_seq ?_
      refine Xg.at_region ?_
      refine Xg.ops_op (by kernel_rfl) (Xg.opx_pure ((iv (↑i : Int))) rfl (fun _ => by kernel_rfl) ?_)
      refine Xg.ops_op (by kernel_rfl) (Xg.opx_pure ((Value.slice a m c)) rfl (fun _ => by kernel_rfl) ?_)
      refine Xg.ops_op (by kernel_rfl) (Xg.opx_pure ((iv (↑m : Int))) rfl (fun _ => by kernel_rfl) ?_)
      refine Xg.ops_op (by kernel_rfl) (Xg.opx_pure (.bool (decide ((((↑i : Int)) : Int) < ((↑m : Int))))) rfl (fun _ => by kernel_rfl) ?_)
      refine Xg.ops_op (by kernel_rfl) (Xg.opx_pure ((Value.bool (decide ((↑i : Int) < (↑m : Int))))) rfl (fun _ => by kernel_rfl) ?_)
      refine Xg.ops_flag (j := 43) (c := (decide ((↑i : Int) < (↑m : Int)))) (by kernel_rfl) (fun xh3 => ?_) (fun xh3 => ?_)
      replace xh3 : ((↑i : Int) < (↑m : Int)) := of_decide_eq_true xh3
      rotate_left
      replace xh3 : ¬ (((↑i : Int) < (↑m : Int))) := of_decide_eq_false xh3
      rotate_right
      refine Xg.ops_op (by kernel_rfl) (Xg.opx_pure ((iv (↑i : Int))) rfl (fun _ => by kernel_rfl) ?_)
      refine Xg.ops_op (by kernel_rfl) (Xg.opx_pure (.bool (decide ((((↑i : Int)) : Int) < ((150 : Int))))) rfl (fun _ => by kernel_rfl) ?_)
      refine Xg.ops_flag (j := 45) (c := (decide ((↑i : Int) < (150 : Int)))) (by kernel_rfl) (fun xh4 => absurd (of_decide_eq_true xh4) (by omega)) (fun _ => ?_)
      refine Xg.ops_op (by kernel_rfl) (Xg.opx_pure ((Value.bool false)) rfl (fun _ => by kernel_rfl) ?_)
      refine Xg.ops_nil ?_
      refine Xg.at_false (t := false) (by kernel_rfl) rfl ?_
      refine Xg.at_exit rfl ?_
      refine Xg.at_seq ?_
      refine Xg.at_region ?_
      refine Xg.ops_op (by kernel_rfl) (Xg.opx_pure ((pv xx2 0)) rfl (fun _ => by kernel_rfl) ?_)
      refine Xg.ops_op (by kernel_rfl) (Xg.opx_call1' [0] [PoolP xx2 ((1 : Nat) + xx1) u, row ob (4 : TypeId) (bcs ((1 : Nat) + xx1) ((i, u, gg), J).fst.snd.snd), A] (fun _ => by kernel_rfl) (@ho ) (by kernel_rfl) (by kernel_rfl) (by kernel_rfl) ?_)
      refine Xg.ops_op (by kernel_rfl) (Xg.opx_pure ((Value.tuple #[iv 0, iv 92])) rfl (fun _ => by kernel_rfl) ?_)
      refine Xg.ops_op (by kernel_rfl) (Xg.opx_pure ((iv 0)) rfl (fun _ => by kernel_rfl) ?_)
      refine Xg.ops_op (by kernel_rfl) (Xg.opx_pure ((iv 92)) rfl (fun _ => by kernel_rfl) ?_)
      refine Xg.ops_op (by kernel_rfl) (Xg.opx_pure ((iv 0)) rfl (fun _ => by kernel_rfl) ?_)
      refine Xg.ops_op (by kernel_rfl) (Xg.opx_pure ((iv 92)) rfl (fun _ => by kernel_rfl) ?_)
      refine Xg.ops_nil ?_
      refine Xg.at_seq ?_
      refine Xg.at_region ?_
      refine Xg.ops_op (by kernel_rfl) (Xg.opx_pure ((iv 0)) rfl (fun _ => by kernel_rfl) ?_)
      refine Xg.ops_op (by kernel_rfl) (Xg.opx_pure ((Value.bool true)) rfl (fun _ => by kernel_rfl) ?_)
      refine Xg.ops_op (by kernel_rfl) (Xg.opx_pure ((Value.bool true)) rfl (fun _ => by kernel_rfl) ?_)
      refine Xg.ops_op (by kernel_rfl) (Xg.opx_pure ((iv 92)) rfl (fun _ => by kernel_rfl) ?_)
      refine Xg.ops_op (by kernel_rfl) (Xg.opx_pure ((Value.bool true)) rfl (fun _ => by kernel_rfl) ?_)
      refine Xg.ops_op (by kernel_rfl) (Xg.opx_pure ((Value.bool true)) rfl (fun _ => by kernel_rfl) ?_)
      refine Xg.ops_op (by kernel_rfl) (Xg.opx_pure ((Value.bool true)) rfl (fun _ => by kernel_rfl) ?_)
      refine Xg.ops_nil ?_
      refine Xg.at_ret_ps (v := (Value.bool true)) [2] [A] Go.Proofs.Try.func4 (fun _ => by kernel_rfl) (by kernel_rfl) (by kernel_rfl) ?_
      exact ⟨by kernel_rfl, by kernel_rfl⟩
      refine Xg.ops_skip (by kernel_rfl) ?_
      refine Xg.ops_skip (by kernel_rfl) ?_
      refine Xg.ops_op (by kernel_rfl) (Xg.opx_pure ((Value.bool false)) rfl (fun _ => by kernel_rfl) ?_)
      refine Xg.ops_nil ?_
      refine Xg.at_false (t := false) (by kernel_rfl) rfl ?_
      refine Xg.at_exit rfl ?_
      refine Xg.at_seq ?_
      refine Xg.at_region ?_
      refine Xg.ops_op (by kernel_rfl) (Xg.opx_pure ((pv xx2 0)) rfl (fun _ => by kernel_rfl) ?_)
      refine Xg.ops_op (by kernel_rfl) (Xg.opx_call1' [0] [PoolP xx2 ((1 : Nat) + xx1) u, row ob (4 : TypeId) (bcs ((1 : Nat) + xx1) ((i, u, gg), J).fst.snd.snd), A] (fun _ => by kernel_rfl) (@ho ) (by kernel_rfl) (by kernel_rfl) (by kernel_rfl) ?_)
      refine Xg.ops_op (by kernel_rfl) (Xg.opx_pure ((Value.tuple #[iv 0, iv 92])) rfl (fun _ => by kernel_rfl) ?_)
      refine Xg.ops_op (by kernel_rfl) (Xg.opx_pure ((iv 0)) rfl (fun _ => by kernel_rfl) ?_)
      refine Xg.ops_op (by kernel_rfl) (Xg.opx_pure ((iv 92)) rfl (fun _ => by kernel_rfl) ?_)
      refine Xg.ops_op (by kernel_rfl) (Xg.opx_pure ((iv 0)) rfl (fun _ => by kernel_rfl) ?_)
      refine Xg.ops_op (by kernel_rfl) (Xg.opx_pure ((iv 92)) rfl (fun _ => by kernel_rfl) ?_)
      refine Xg.ops_nil ?_
      refine Xg.at_seq ?_
      refine Xg.at_region ?_
      refine Xg.ops_op (by kernel_rfl) (Xg.opx_pure ((iv 0)) rfl (fun _ => by kernel_rfl) ?_)
      refine Xg.ops_op (by kernel_rfl) (Xg.opx_pure ((Value.bool true)) rfl (fun _ => by kernel_rfl) ?_)
      refine Xg.ops_op (by kernel_rfl) (Xg.opx_pure ((Value.bool true)) rfl (fun _ => by kernel_rfl) ?_)
      refine Xg.ops_op (by kernel_rfl) (Xg.opx_pure ((iv 92)) rfl (fun _ => by kernel_rfl) ?_)
      refine Xg.ops_op (by kernel_rfl) (Xg.opx_pure ((Value.bool true)) rfl (fun _ => by kernel_rfl) ?_)
      refine Xg.ops_op (by kernel_rfl) (Xg.opx_pure ((Value.bool true)) rfl (fun _ => by kernel_rfl) ?_)
      refine Xg.ops_op (by kernel_rfl) (Xg.opx_pure ((Value.bool true)) rfl (fun _ => by kernel_rfl) ?_)
      refine Xg.ops_nil ?_
      refine Xg.at_ret_ps (v := (Value.bool true)) [2] [A] Go.Proofs.Try.func4 (fun _ => by kernel_rfl) (by kernel_rfl) (by kernel_rfl) ?_
      exact ⟨by kernel_rfl, by kernel_rfl⟩)
end Go.Proofs.Ytmplimmcjdkhlaa
