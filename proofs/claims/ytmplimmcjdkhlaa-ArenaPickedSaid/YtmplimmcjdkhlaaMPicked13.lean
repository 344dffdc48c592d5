import Derived.Test.YtmplimmcjdkhlaaMPicked12
/- The arena law: house. -/
namespace Go.Proofs.Ytmplimmcjdkhlaa
open Go.Sl Go.Xg
set_option linter.unusedVariables false
set_option linter.unusedSimpArgs false
set_option linter.unnecessarySimpa false
set_option maxHeartbeats 4000000
set_option maxRecDepth 100000

abbrev hdC (x : Int) : List Value := [.int .i64 x, .slice none 0 0, .slice none 0 0]
abbrev ksH (m : Nat) : List (Int × Int) := [(4, (m : Nat)), (16, (m : Nat))]
theorem kok_h (m : Nat) (h1 : 1 ≤ m) (h6 : m ≤ 500) : Kok (ksH m) := by
  refine ⟨by simp, by simp, fun i hi => ?_, ?_⟩
  · have hi2 : i < 2 := hi
    obtain rfl | rfl : i = 0 ∨ i = 1 := by omega
    · unfold prevK; simp [ksH]; omega
    · unfold prevK; simp [ksH]; omega
  · simp [ksH, totK]; omega
theorem bufH_len (m : Nat) : (bufL (ksH m) 2).length = 2 * m := by
  simp [bufL, ksH, manyK]; omega
theorem newH (m b : Nat) (h1 : 1 ≤ m) (h6 : m ≤ 500) : Does Try.prog 14 [.agg #[.slice (some ⟨b, 0, none⟩) 2 2, .int .i64 5]] [row b 32 [.int .i64 4, .int .i64 (m : Nat), .int .i64 16, .int .i64 (m : Nat)]]
    (RetE (fun p : Nat => True) (fun p => .tuple #[.pointer (some ⟨p, 0, none⟩), .int .i64 0]) (fun p => [PoolS p (newσ (ksH m) 5), row b 32 [.int .i64 4, .int .i64 (m : Nat), .int .i64 16, .int .i64 (m : Nat)]])) := by
  have hR : Reads (row b 32 [.int .i64 4, .int .i64 (m : Nat), .int .i64 16, .int .i64 (m : Nat)]) 2 (.slice (some ⟨b, 0, none⟩) (ksH m).length 2) (ksH m).length (recs kC (ksH m)) := reads_row rfl (fun j v hv => by rwa [Nat.zero_add])
  exact newS _ (some ⟨b, 0, none⟩) 2 (ksH m) hR (kok_h m h1 h6) 5 (by decide) (by decide) (by rw [show (ksH m).length = 2 from rfl, bufH_len]; omega)
/-- The Pool behind so many Opens. -/
def opsσ (m : Nat) (q : Int) : Nat → Po
  | 0 => newσ (ksH m) 5
  | i + 1 => openσ (opsσ m q i) i q
theorem ops_na (m : Nat) (q : Int) : ∀ i, (opsσ m q i).na = 5
  | 0 => rfl
  | i + 1 => ops_na m q i
theorem ops_ar (m : Nat) (q : Int) : ∀ i j, (opsσ m q i).ar j = if j < i then some ⟨q, 0, []⟩ else none
  | 0, j => rfl
  | i + 1, j => by
    show updF (opsσ m q i).ar i (some ⟨q, 0, []⟩) j = _
    unfold updF
    split
    · rename_i e; rw [if_pos (by omega)]
    · rename_i e
      rw [ops_ar m q i j]
      by_cases h : j < i
      · rw [if_pos h, if_pos (by omega)]
      · rw [if_neg h, if_neg (by omega)]
theorem ops_same (m : Nat) (q : Int) : ∀ i, (opsσ m q i).nc = 2 ∧ (opsσ m q i).nb = 2 * m ∧ (opsσ m q i).fr = (newσ (ksH m) 5).fr ∧ (opsσ m q i).size = (newσ (ksH m) 5).size ∧ (opsσ m q i).cl = (newσ (ksH m) 5).cl ∧ (opsσ m q i).bs = fun _ => none
  | 0 => ⟨rfl, bufH_len m, rfl, rfl, rfl, rfl⟩
  | i + 1 => ops_same m q i
theorem openH (p m : Nat) (q : Int) (i : Nat) (hi : i < 4) (hq : 0 ≤ q) : Does Try.prog 16 [.pointer (some ⟨p, 0, none⟩), .int .i64 q] [PoolS p (opsσ m q i)] (Ret (.tuple #[.int .i64 (i : Nat), .int .i64 0]) [PoolS p (opsσ m q (i + 1))]) :=
  openS p (opsσ m q i) (by rw [ops_na]; decide) i (by rw [ops_na]; omega) (by rw [ops_ar, if_neg (by omega)]) (fun j hj => by rw [ops_ar, if_pos hj]; rfl) q hq
theorem freeH (p m : Nat) (q : Int) (i : Nat) (hm : m ≤ 500) : Does Try.prog 27 [.pointer (some ⟨p, 0, none⟩), .int .i64 0] [PoolS p (opsσ m q i)]
    (RetE (fun z : Option Addr × Nat => True) (fun z => .slice z.1 m z.2) (fun z => [PoolS p (opsσ m q i), I2 z.1 z.2 ((opsσ m q i).fr 0)])) := by
  obtain ⟨e1, e2, e3, e4, e5, e6⟩ := ops_same m q i
  have hl : ((opsσ m q i).fr 0).length = m := by
    rw [e3]
    show (iotaN _ (manyK (ksH m) 0)).length = m
    rw [iotaN_len]; simp [manyK, ksH]
  have h := freeS p (opsσ m q i) 0 (by rw [e1]; decide) (by rw [e1]; decide) (by rw [hl]; omega)
  rw [hl] at h
  exact h

theorem house_d (m : Nat) (q : Int) (h1 : 1 ≤ m) (h6 : m ≤ 500) (hq : 0 ≤ q ∧ q ≤ 100000) : Does Try.prog 24 [.int .i64 (m : Nat), .int .i64 q] []
    (RetE (fun x : Nat × Option Addr × Nat => True) (fun x => .tuple #[.pointer (some ⟨x.1, 0, none⟩), .slice x.2.1 4 x.2.2, .bool true])
      (fun x => [PoolS x.1 (opsσ m q 4), recsO 62 3 hdC x.2.1 x.2.2 [0, 1, 2, 3]])) := by
  have hn : ∀ b, Does Try.prog 14 [.agg #[.slice (some ⟨b, 0, none⟩) 2 2, .int .i64 5]] [row b 32 [.int .i64 4, .int .i64 (m : Nat), .int .i64 16, .int .i64 (m : Nat)]]
    (RetE (fun p : Nat => True) (fun p => .tuple #[.pointer (some ⟨p, 0, none⟩), .int .i64 0]) (fun p => [PoolS p (opsσ m q 0), row b 32 [.int .i64 4, .int .i64 (m : Nat), .int .i64 16, .int .i64 (m : Nat)]])) := fun b => newH m b h1 h6
  have hf := fun p => freeH p m q 4 h6
  (focus
    refine Xg.spec_of Go.Proofs.Try.func24 rfl Go.Proofs.Try.ntmps24 fun g F => ?_)
  (focus
    refine Xg.at_seq ?_
    refine Xg.at_region ?_
    refine Xg.ops_op (by kernel_rfl) (Xg.opx_pure ((Value.pointer none)) rfl (fun _ => by kernel_rfl) ?_)
    refine Xg.ops_op (by kernel_rfl) (Xg.opx_pure ((Value.slice none (0 : Nat) (0 : Nat))) rfl (fun _ => by kernel_rfl) ?_)
    refine Xg.ops_op (by kernel_rfl) (Xg.opx_pure ((Value.bool false)) rfl (fun _ => by kernel_rfl) ?_)
    refine Xg.ops_nil ?_
    refine Xg.at_seq ?_
    refine Xg.at_region ?_
    refine Xg.ops_op (by kernel_rfl) (Xg.opx_pure ((iv (↑m : Int))) rfl (fun _ => by kernel_rfl) ?_)
    refine Xg.ops_op (by kernel_rfl) (Xg.opx_pure ((Value.agg #[iv 4, iv (↑m : Int)])) rfl (fun _ => by kernel_rfl) ?_)
    refine Xg.ops_op (by kernel_rfl) (Xg.opx_pure ((iv (↑m : Int))) rfl (fun _ => by kernel_rfl) ?_)
    refine Xg.ops_op (by kernel_rfl) (Xg.opx_pure ((Value.agg #[iv 16, iv (↑m : Int)])) rfl (fun _ => by kernel_rfl) ?_)
    refine Xg.ops_op (by kernel_rfl) (Xg.opx_bs (elem := 32) 2 [Value.agg #[iv 4, iv (↑m : Int)], Value.agg #[iv 16, iv (↑m : Int)]] [iv 4, iv (↑m : Int), iv 16, iv (↑m : Int)] (by kernel_rfl) (by kernel_rfl) (by decide) rfl (by kernel_rfl) (by kernel_rfl) (by kernel_rfl) (by kernel_rfl) fun xb1 => ?_)
    refine Xg.ops_op (by kernel_rfl) (Xg.opx_pure ((Value.agg #[Value.slice (some (Addr.mk xb1 (0 : Nat) none)) (2 : Nat) (2 : Nat), iv 5])) rfl (fun _ => by kernel_rfl) ?_)
    refine Xg.ops_op (by kernel_rfl) (Xg.opx_callE' [0] (fun xx1 => [PoolS xx1 (opsσ m q (0 : Nat)), row xb1 (32 : TypeId) [iv 4, iv (↑m : Int), iv 16, iv (↑m : Int)]]) (fun _ => by kernel_rfl) (@hn (xb1)) (by kernel_rfl) (by kernel_rfl) (by kernel_rfl) fun xx1 xh1 => ?_)
    try dsimp only at xh1
    refine Xg.ops_op (by kernel_rfl) (Xg.opx_pure ((Value.tuple #[pv xx1 0, iv 0])) rfl (fun _ => by kernel_rfl) ?_)
    refine Xg.ops_op (by kernel_rfl) (Xg.opx_pure ((pv xx1 0)) rfl (fun _ => by kernel_rfl) ?_)
    refine Xg.ops_op (by kernel_rfl) (Xg.opx_pure ((iv 0)) rfl (fun _ => by kernel_rfl) ?_)
    refine Xg.ops_op (by kernel_rfl) (Xg.opx_pure ((pv xx1 0)) rfl (fun _ => by kernel_rfl) ?_)
    refine Xg.ops_op (by kernel_rfl) (Xg.opx_pure ((iv 0)) rfl (fun _ => by kernel_rfl) ?_)
    refine Xg.ops_nil ?_
    refine Xg.at_seq ?_
    refine Xg.at_seq ?_
    refine Xg.at_region ?_
    refine Xg.ops_op (by kernel_rfl) (Xg.opx_pure ((pv xx1 0)) rfl (fun _ => by kernel_rfl) ?_)
    refine Xg.ops_op (by kernel_rfl) (Xg.opx_pure ((Value.bool false)) rfl (fun _ => by kernel_rfl) ?_)
    refine Xg.ops_op (by kernel_rfl) (Xg.opx_pure ((Value.bool false)) rfl (fun _ => by kernel_rfl) ?_)
    refine Xg.ops_op (by kernel_rfl) (Xg.opx_pure ((iv 0)) rfl (fun _ => by kernel_rfl) ?_)
    refine Xg.ops_op (by kernel_rfl) (Xg.opx_pure ((Value.bool false)) rfl (fun _ => by kernel_rfl) ?_)
    refine Xg.ops_op (by kernel_rfl) (Xg.opx_pure ((Value.bool false)) rfl (fun _ => by kernel_rfl) ?_)
    refine Xg.ops_nil ?_
    refine Xg.at_false (t := false) (by kernel_rfl) rfl ?_
    refine Xg.at_skip ?_
    refine Xg.at_seq ?_)
  refine at_nil_recs 62 3 hdC ?_
  (focus
    refine Xg.at_region ?_
    refine Xg.ops_op (by kernel_rfl) (Xg.opx_pure ((Value.slice none (0 : Nat) (0 : Nat))) rfl (fun _ => by kernel_rfl) ?_)
    refine Xg.ops_nil ?_
    refine Xg.at_seq ?_
    refine Xg.at_seq ?_
    refine Xg.at_region ?_
    refine Xg.ops_op (by kernel_rfl) (Xg.opx_pure ((iv 0)) rfl (fun _ => by kernel_rfl) ?_)
    refine Xg.ops_nil ?_
    refine Xg.at_block ?_)
  (focus
    refine Xg.at_keep [1, 0] (by kernel_rfl) ?_
    refine Xg.at_rounds_inv (α := (Nat × Option Addr × Nat × List Int) × (Nat → Value)) (fun x => ((fun x => x.1 ≤ 4 ∧ x.2.2.2 = iotaN 0 x.1) : (Nat × Option Addr × Nat × List Int) → Prop) x.1) (fun x => ((fun x => 4 - x.1) : (Nat × Option Addr × Nat × List Int) → Nat) x.1) (fun x => Xg.headT [iv (↑m : Int), iv q, tu, tu, Value.pointer none, Value.slice none (0 : Nat) (0 : Nat), Value.bool false, pv xx1 0, iv 0, Value.slice none (0 : Nat) (0 : Nat), iv 0, tu, tu, tu, Value.tuple #[pv xx1 0, iv 0], iv (↑m : Int), Value.agg #[iv 4, iv (↑m : Int)], iv (↑m : Int), Value.agg #[iv 16, iv (↑m : Int)], Value.slice (some (Addr.mk xb1 (0 : Nat) none)) (2 : Nat) (2 : Nat), Value.agg #[Value.slice (some (Addr.mk xb1 (0 : Nat) none)) (2 : Nat) (2 : Nat), iv 5], Value.tuple #[pv xx1 0, iv 0], pv xx1 0, iv 0, pv xx1 0, Value.bool false, Value.bool false, iv 0, Value.bool false, Value.bool false, tu, tu, tu, tu, tu, tu, tu, tu, tu, tu, tu, tu, tu, tu, tu, tu, tu, tu, tu, tu, tu, tu, tu, tu, tu, tu, tu, tu, tu, tu] [4, 5, 6, 11, 12, 30, 31, 32, 33, 34, 35, 36, 37, 38, 39, 40, 41, 42, 43, 44, 45, 46, 47, 48, 49, 50, 51] (((fun x => [(9, .slice x.2.1 x.2.2.2.length x.2.2.1), (10, .int .i64 (x.1 : Nat))]) : (Nat × Option Addr × Nat × List Int) → List (Nat × Go.Value)) x.1) x.2) (fun x => ((fun x => [PoolS xx1 (opsσ m q x.1), recsO 62 3 hdC x.2.1 x.2.2.1 x.2.2.2]) : (Nat × Option Addr × Nat × List Int) → List Go.Sl.HP) x.1) (((0, none, 0, [])), fun j9 => ([iv (↑m : Int), iv q, tu, tu, Value.pointer none, Value.slice none (0 : Nat) (0 : Nat), Value.bool false, pv xx1 0, iv 0, Value.slice none (0 : Nat) (0 : Nat), iv 0, tu, tu, tu, Value.tuple #[pv xx1 0, iv 0], iv (↑m : Int), Value.agg #[iv 4, iv (↑m : Int)], iv (↑m : Int), Value.agg #[iv 16, iv (↑m : Int)], Value.slice (some (Addr.mk xb1 (0 : Nat) none)) (2 : Nat) (2 : Nat), Value.agg #[Value.slice (some (Addr.mk xb1 (0 : Nat) none)) (2 : Nat) (2 : Nat), iv 5], Value.tuple #[pv xx1 0, iv 0], pv xx1 0, iv 0, pv xx1 0, Value.bool false, Value.bool false, iv 0, Value.bool false, Value.bool false, tu, tu, tu, tu, tu, tu, tu, tu, tu, tu, tu, tu, tu, tu, tu, tu, tu, tu, tu, tu, tu, tu, tu, tu, tu, tu, tu, tu, tu, tu] : List Value).getD j9 undef) (by kernel_rfl) (by kernel_rfl) ?_ ?_)
  · exact ⟨Nat.zero_le _, rfl⟩
  rintro ⟨⟨i, la, lc, H⟩, J⟩ hi ih
  obtain ⟨hi, hH⟩ := hi
  dsimp only at hi hH
  (focus
    refine Xg.At.same (T' := [iv (↑m : Int), iv q, tu, tu, J 4, J 5, J 6, pv xx1 0, iv 0, Value.slice la H.length lc, iv (↑i : Int), J 11, J 12, tu, Value.tuple #[pv xx1 0, iv 0], iv (↑m : Int), Value.agg #[iv 4, iv (↑m : Int)], iv (↑m : Int), Value.agg #[iv 16, iv (↑m : Int)], Value.slice (some (Addr.mk xb1 (0 : Nat) none)) (2 : Nat) (2 : Nat), Value.agg #[Value.slice (some (Addr.mk xb1 (0 : Nat) none)) (2 : Nat) (2 : Nat), iv 5], Value.tuple #[pv xx1 0, iv 0], pv xx1 0, iv 0, pv xx1 0, Value.bool false, Value.bool false, iv 0, Value.bool false, Value.bool false, J 30, J 31, J 32, J 33, J 34, J 35, J 36, J 37, J 38, J 39, J 40, J 41, J 42, J 43, J 44, J 45, J 46, J 47, J 48, J 49, J 50, J 51, tu, tu, tu, tu, tu, tu, tu, tu]) (L' := [PoolS xx1 (opsσ m q ((i, la, lc, H), J).fst.fst), recsO (62 : Nat) (3 : Nat) hdC ((i, la, lc, H), J).fst.snd.fst ((i, la, lc, H), J).fst.snd.snd.fst ((i, la, lc, H), J).fst.snd.snd.snd]) (by kernel_rfl) rfl ?_)
  by_cases hlt : i < 4
  · have ho := openH xx1 m q i hlt hq.1
    have hl : H.length = i := by rw [hH, iotaN_len]
    (focus
      refine Xg.at_seq ?_
      refine Xg.at_seq ?_
      refine Xg.at_region ?_
      refine Xg.ops_op (by kernel_rfl) (Xg.opx_pure ((iv (↑i : Int))) rfl (fun _ => by kernel_rfl) ?_)
      refine Xg.ops_op (by kernel_rfl) (Xg.opx_pure (.bool (decide ((((↑i : Int)) : Int) < ((4 : Int))))) rfl (fun _ => by kernel_rfl) ?_)
      refine Xg.ops_nil ?_
      refine Xg.at_true (t := decide (((↑i : Int) < (4 : Int)))) (by kernel_rfl) (decide_eq_true (by omega)) ?_
      refine Xg.at_skip ?_
      refine Xg.at_seq ?_
      refine Xg.at_block ?_
      refine Xg.at_seq ?_
      refine Xg.at_region ?_
      refine Xg.ops_op (by kernel_rfl) (Xg.opx_pure ((pv xx1 0)) rfl (fun _ => by kernel_rfl) ?_)
      refine Xg.ops_op (by kernel_rfl) (Xg.opx_pure ((iv q)) rfl (fun _ => by kernel_rfl) ?_)
      refine Xg.ops_op (by kernel_rfl) (Xg.opx_call1' [0] [PoolS xx1 (opsσ m q (i + (1 : Nat))), recsO (62 : Nat) (3 : Nat) hdC la lc H] (fun _ => by kernel_rfl) (@ho ) (by kernel_rfl) (by kernel_rfl) (by kernel_rfl) ?_)
      refine Xg.ops_op (by kernel_rfl) (Xg.opx_pure ((Value.tuple #[iv (↑i : Int), iv 0])) rfl (fun _ => by kernel_rfl) ?_)
      refine Xg.ops_op (by kernel_rfl) (Xg.opx_pure ((iv (↑i : Int))) rfl (fun _ => by kernel_rfl) ?_)
      refine Xg.ops_op (by kernel_rfl) (Xg.opx_pure ((iv 0)) rfl (fun _ => by kernel_rfl) ?_)
      refine Xg.ops_op (by kernel_rfl) (Xg.opx_pure ((iv (↑i : Int))) rfl (fun _ => by kernel_rfl) ?_)
      refine Xg.ops_op (by kernel_rfl) (Xg.opx_pure ((iv 0)) rfl (fun _ => by kernel_rfl) ?_)
      refine Xg.ops_nil ?_
      refine Xg.at_seq ?_
      refine Xg.at_seq ?_
      refine Xg.at_region ?_
      refine Xg.ops_op (by kernel_rfl) (Xg.opx_pure ((iv 0)) rfl (fun _ => by kernel_rfl) ?_)
      refine Xg.ops_op (by kernel_rfl) (Xg.opx_pure ((Value.bool false)) rfl (fun _ => by kernel_rfl) ?_)
      refine Xg.ops_op (by kernel_rfl) (Xg.opx_pure ((Value.bool false)) rfl (fun _ => by kernel_rfl) ?_)
      refine Xg.ops_op (by kernel_rfl) (Xg.opx_pure ((iv (↑i : Int))) rfl (fun _ => by kernel_rfl) ?_)
      refine Xg.ops_op (by kernel_rfl) (Xg.opx_pure ((iv (↑i : Int))) rfl (fun _ => by kernel_rfl) ?_)
      refine Xg.ops_op (by kernel_rfl) (Xg.opx_pure (.bool (!decide ((((↑i : Int)) : Int) = ((↑i : Int))))) rfl (fun _ => by kernel_rfl) ?_)
      refine Xg.ops_flag (j := 45) (c := (!decide ((↑i : Int) = (↑i : Int)))) (by kernel_rfl) (fun xh2 => absurd xh2 (by rw [decide_eq_true (p := ((↑i : Int) = (↑i : Int))) (by omega)]; decide)) (fun _ => ?_)
      refine Xg.ops_op (by kernel_rfl) (Xg.opx_pure ((Value.bool false)) rfl (fun _ => by kernel_rfl) ?_)
      refine Xg.ops_nil ?_
      refine Xg.at_false (t := false) (by kernel_rfl) rfl ?_
      refine Xg.at_skip ?_
      refine Xg.at_region ?_
      refine Xg.ops_op (by kernel_rfl) (Xg.opx_pure ((Value.slice la H.length lc)) rfl (fun _ => by kernel_rfl) ?_)
      refine Xg.ops_op (by kernel_rfl) (Xg.opx_pure ((iv (↑i : Int))) rfl (fun _ => by kernel_rfl) ?_)
      refine Xg.ops_op (by kernel_rfl) (Xg.opx_pure ((Value.agg #[iv (↑i : Int), Value.slice none (0 : Nat) (0 : Nat), Value.slice none (0 : Nat) (0 : Nat)])) rfl (fun _ => by kernel_rfl) ?_)
      refine Xg.ops_op (by kernel_rfl) (Xg.opx_bs (elem := 62) 3 [Value.agg #[iv (↑i : Int), Value.slice none (0 : Nat) (0 : Nat), Value.slice none (0 : Nat) (0 : Nat)]] [iv (↑i : Int), Value.slice none (0 : Nat) (0 : Nat), Value.slice none (0 : Nat) (0 : Nat)] (by kernel_rfl) (by kernel_rfl) (by decide) rfl (by kernel_rfl) (by kernel_rfl) (by kernel_rfl) (by kernel_rfl) fun xb2 => ?_)
      refine Xg.ops_op (by kernel_rfl) (Xg.opx_append_recs (elem := 62) (yv := (Value.slice (some (Addr.mk xb2 (0 : Nat) none)) (1 : Nat) (1 : Nat))) (l := H) 2 3 96 ((↑i : Int)) rfl (by kernel_rfl) (by kernel_rfl) (by kernel_rfl) (by kernel_rfl) (fun _ hS => Xg.row_rd hS 0 rfl (by kernel_rfl)) (by kernel_rfl) (by first | omega | (simp only [List.length_nil]; omega) | (simp; done) | (simp; omega)) (by first | omega | (simp only [List.length_nil]; omega) | (simp; done) | (simp; omega)) fun xa1 xc1 => ?_)
      have xl1 : ((H : (List Int)) ++ ([((↑i : Int))] : (List Int))).length = (H : (List Int)).length + 1 := by simp
      refine Xg.ops_op (by kernel_rfl) (Xg.opx_pure ((Value.slice xa1 (H ++ [(↑i : Int)]).length xc1)) rfl (fun _ => by kernel_rfl) ?_)
      refine Xg.ops_nil ?_
      refine Xg.at_inBlock ?_
      refine Xg.at_region ?_
      refine Xg.ops_op (by kernel_rfl) (Xg.opx_pure ((iv (↑i : Int))) rfl (fun _ => by kernel_rfl) ?_)
      refine Xg.ops_op (by kernel_rfl) (Xg.opx_int .i64 (IntKind.wrap .i64 (((↑i : Int) + (1 : Int)))) rfl (fun _ => by kernel_rfl) (Xg.wrap_i64_in (by omega)) ?_)
      refine Xg.ops_op (by kernel_rfl) (Xg.opx_pure ((iv ((↑i : Int) + (1 : Int)))) rfl (fun _ => by kernel_rfl) ?_)
      refine Xg.ops_nil ?_
      refine Xg.at_inLoop ?_)
    (focus
      refine Xg.at_keep [1, 2] (by kernel_rfl) ?_
      refine Xs.same ?_ (fun J9 => ih (((i + 1, xa1, xc1, H ++ [((i : Nat) : Int)])), J9) ?_ ?_) (by kernel_rfl))
    · rfl
    · exact ⟨hlt, by rw [hH, iotaN_one, Nat.zero_add]⟩
    · dsimp only; omega
  · obtain rfl : i = 4 := by omega
    clear ih
    subst hH
    (focus
      refine Xg.at_seq ?_
      refine Xg.at_seq ?_
      refine Xg.at_region ?_
      refine Xg.ops_op (by kernel_rfl) (Xg.opx_pure ((iv 4)) rfl (fun _ => by kernel_rfl) ?_)
      refine Xg.ops_op (by kernel_rfl) (Xg.opx_pure ((Value.bool false)) rfl (fun _ => by kernel_rfl) ?_)
      refine Xg.ops_nil ?_
      refine Xg.at_false (t := false) (by kernel_rfl) rfl ?_
      refine Xg.at_exit rfl ?_
      refine Xg.at_seq ?_
      refine Xg.at_region ?_
      refine Xg.ops_op (by kernel_rfl) (Xg.opx_pure ((pv xx1 0)) rfl (fun _ => by kernel_rfl) ?_)
      refine Xg.ops_op (by kernel_rfl) (Xg.opx_callE' [0] (fun xx2 => [PoolS xx1 (opsσ m q (4 : Nat)), I2 xx2.fst xx2.snd ((opsσ m q (4 : Nat)).fr (0 : Nat)), recsO (62 : Nat) (3 : Nat) hdC la lc (iotaN (0 : Nat) (4 : Nat))]) (fun _ => by kernel_rfl) (@hf (xx1)) (by kernel_rfl) (by kernel_rfl) (by kernel_rfl) fun xx2 xh2 => ?_)
      try dsimp only at xh2
      refine Xg.ops_op (by kernel_rfl) (Xg.opx_pure ((Value.slice xx2.fst m xx2.snd)) rfl (fun _ => by kernel_rfl) ?_)
      refine Xg.ops_nil ?_
      refine Xg.at_seq ?_
      refine Xg.at_region ?_
      refine Xg.ops_op (by kernel_rfl) (Xg.opx_pure ((pv xx1 0)) rfl (fun _ => by kernel_rfl) ?_)
      refine Xg.ops_op (by kernel_rfl) (Xg.opx_pure ((Value.slice la (4 : Nat) lc)) rfl (fun _ => by kernel_rfl) ?_)
      refine Xg.ops_op (by kernel_rfl) (Xg.opx_pure ((Value.slice xx2.fst m xx2.snd)) rfl (fun _ => by kernel_rfl) ?_)
      refine Xg.ops_op (by kernel_rfl) (Xg.opx_pure ((iv (↑m : Int))) rfl (fun _ => by kernel_rfl) ?_)
      refine Xg.ops_op (by kernel_rfl) (Xg.opx_pure ((iv (↑m : Int))) rfl (fun _ => by kernel_rfl) ?_)
      refine Xg.ops_op (by kernel_rfl) (Xg.opx_pure (.bool (decide ((((↑m : Int)) : Int) = ((↑m : Int))))) rfl (fun _ => by kernel_rfl) ?_)
      refine Xg.ops_op (by kernel_rfl) (Xg.opx_pure ((pv xx1 0)) rfl (fun _ => by kernel_rfl) ?_)
      refine Xg.ops_op (by kernel_rfl) (Xg.opx_pure ((Value.slice la (4 : Nat) lc)) rfl (fun _ => by kernel_rfl) ?_)
      refine Xg.ops_op (by kernel_rfl) (Xg.opx_pure ((Value.bool (decide ((↑m : Int) = (↑m : Int))))) rfl (fun _ => by kernel_rfl) ?_)
      refine Xg.ops_nil ?_)
    exact Xg.at_ret_ps (v := .tuple #[.pointer (some ⟨xx1, 0, none⟩), .slice la 4 lc, .bool (decide (((m : Nat) : Int) = ((m : Nat) : Int)))]) [0, 2] _ Try.func24 (fun _ => by kernel_rfl) (by kernel_rfl) rfl ⟨(xx1, la, lc), trivial, by rw [decide_eq_true rfl], rfl⟩
end Go.Proofs.Ytmplimmcjdkhlaa

/- The arena laws, plain: a Pool that was just made. -/
namespace Go.Proofs.Ytmplimmcjdkhlaa
open Go.Sl Go.Xg
set_option linter.unusedVariables false
set_option linter.unusedSimpArgs false
set_option linter.unnecessarySimpa false
set_option maxHeartbeats 4000000
set_option maxRecDepth 100000

theorem iotaN_app (b n m : Nat) : iotaN b n ++ iotaN (b + n) m = iotaN b (n + m) := by
  induction m with
  | zero => simp [iotaN]
  | succ m ih => rw [iotaN_one, ← List.append_assoc, ih, ← Nat.add_assoc, iotaN_one, Nat.add_assoc]
theorem iotaN_sorted (b n : Nat) : (iotaN b n).Pairwise (· ≤ ·) := by
  unfold iotaN
  rw [List.pairwise_map]
  refine List.Pairwise.imp ?_ List.pairwise_lt_range
  intro a c hac
  omega
theorem catN_one (n : Nat) (f : Nat → List Int) : catN (n + 1) f = catN n f ++ f n := by
  unfold catN; rw [List.range_succ, List.flatMap_append]; simp
theorem catN_nil (n : Nat) : catN n (fun _ => []) = [] := by
  unfold catN; simp
theorem bufL_one (ks : List (Int × Int)) (i : Nat) : (bufL ks (i + 1)).length = (bufL ks i).length + manyK ks i := by
  rw [bufL, List.length_append, List.length_replicate]
theorem bufL_cat (ks : List (Int × Int)) (i : Nat) : catN i (fun k => iotaN (bufL ks k).length (manyK ks k)) = iotaN 0 (bufL ks i).length := by
  induction i with
  | zero => rfl
  | succ i ih =>
    rw [catN_one, ih, bufL_one, ← iotaN_app, Nat.zero_add]
theorem bufL_mono (ks : List (Int × Int)) (k : Nat) : ∀ i, k < i → (bufL ks k).length + manyK ks k ≤ (bufL ks i).length
  | 0, h => by omega
  | i + 1, h => by
    rw [bufL_one]
    by_cases e : k = i
    · subst e; omega
    · have := bufL_mono ks k i (by omega); omega
theorem bufL_cls (ks : List (Int × Int)) (k j : Nat) (hj : j < manyK ks k) : ∀ i, k < i → ((bufL ks i).getD ((bufL ks k).length + j) default).cls = k
  | 0, h => by omega
  | i + 1, h => by
    rw [bufL, List.getD_eq_getElem?_getD]
    by_cases e : k = i
    · subst e
      rw [List.getElem?_append_right (by omega), Nat.add_sub_cancel_left, List.getElem?_replicate, if_pos hj]; rfl
    · have h1 := bufL_mono ks k i (by omega)
      rw [List.getElem?_append_left (by omega), ← List.getD_eq_getElem?_getD]
      exact bufL_cls ks k j hj i (by omega)
theorem bufL_lt (ks : List (Int × Int)) : ∀ i, ∀ x ∈ bufL ks i, x.cls < i
  | 0, x, h => by cases h
  | i + 1, x, h => by
    rw [bufL] at h
    rcases List.mem_append.1 h with h | h
    · have := bufL_lt ks i x h; omega
    · rw [(List.mem_replicate.1 h).2]; exact Nat.lt_succ_self i
theorem manyK_out (ks : List (Int × Int)) (k : Nat) (h : ks.length ≤ k) : manyK ks k = 0 := by
  unfold manyK
  rw [List.getD_eq_getElem?_getD, List.getElem?_eq_none h]; rfl
theorem new_inv (ks : List (Int × Int)) (hk : Kok ks) (n : Nat) (h64 : n ≤ 64) : Pinv (newσ ks n) := by
  have hlen := bufL_le hk ks.length (Nat.le_refl _)
  obtain ⟨k1, k2, k3, k4⟩ := id hk
  have hfr : ∀ k x, x ∈ (newσ ks n).fr k → k < ks.length ∧ ∃ j, j < manyK ks k ∧ x = (((bufL ks k).length + j : Nat) : Int) := fun k x hx => by
    have hx : x ∈ iotaN (bufL ks k).length (manyK ks k) := hx
    have h2 := (iotaN_mem _ _ x).1 hx
    refine ⟨?_, (x - (bufL ks k).length).toNat, by omega, by omega⟩
    by_cases e : k < ks.length
    · exact e
    · rw [manyK_out ks k (by omega)] at h2; omega
  refine { na := h64, nb := by show (bufL ks ks.length).length ≤ 5000; omega, nc := k2, sz := fun k h => ?_, cl := fun b hb => ?_, all := ?_, fs := fun k => iotaN_sorted _ _, fn := fun k h => ?_, fc := fun k x hx => ?_, fb := fun _ _ _ => rfl, an := fun _ _ => rfl, au := fun i r hr => ?_, ab := fun i r x hr => ?_ }
  · obtain ⟨g1, g2, g3, g4⟩ := k3 k h
    have g5 := prevK_nn hk k (Nat.le_of_lt h)
    show 1 ≤ (ks.getD k default).1.toNat ∧ (ks.getD k default).1.toNat ≤ 65536
    omega
  · have hb : b < (bufL ks ks.length).length := hb
    show ((bufL ks ks.length).getD b default).cls < ks.length
    rw [List.getD_eq_getElem?_getD, List.getElem?_eq_getElem hb]
    exact bufL_lt ks _ _ (List.getElem_mem hb)
  · show (catN ks.length (fun k => iotaN (bufL ks k).length (manyK ks k)) ++ catN n fun _ => []).Perm (iotaN 0 (bufL ks ks.length).length)
    rw [bufL_cat, catN_nil, List.append_nil]
  · show iotaN _ (manyK ks k) = []
    rw [manyK_out ks k h]; rfl
  · obtain ⟨h1, j, h2, rfl⟩ := hfr k x hx
    show ((bufL ks ks.length).getD _ default).cls = k
    rw [Int.toNat_natCast]
    exact bufL_cls ks k j h2 _ h1
  · cases hr
  · cases hr
theorem ops_inv (m : Nat) (q : Int) (h1 : 1 ≤ m) (h6 : m ≤ 500) (hq : 0 ≤ q ∧ q ≤ 1000000) : ∀ i, i ≤ 4 → Pinv (opsσ m q i)
  | 0, _ => new_inv (ksH m) (kok_h m h1 h6) 5 (by decide)
  | i + 1, h => (ops_inv m q h1 h6 hq i (by omega)).opens (by rw [ops_na]; omega) (by rw [ops_ar, if_neg (by omega)]) hq
end Go.Proofs.Ytmplimmcjdkhlaa

/- The arena laws: pick. -/
namespace Go.Proofs.Ytmplimmcjdkhlaa
open Go.Sl Go.Xg
set_option linter.unusedVariables false
set_option linter.unusedSimpArgs false
set_option linter.unnecessarySimpa false
set_option maxHeartbeats 4000000
set_option maxRecDepth 100000

def pickN (c : Int) (n : Nat) : Nat := ((if c < 0 then -(c + 1) else c) % (n : Int)).toNat
theorem pickN_lt (c : Int) (n : Nat) (h : 0 < n) : pickN c n < n := by
  unfold pickN
  have h1 := Int.emod_lt_of_pos (if c < 0 then -(c + 1) else c) (b := (n : Int)) (by omega)
  have h2 := Int.emod_nonneg (if c < 0 then -(c + 1) else c) (b := (n : Int)) (by omega)
  omega
theorem pickN_eq (c : Int) (n : Nat) (h : 0 < n) : ((pickN c n : Nat) : Int) = (if c < 0 then -(c + 1) else c) % (n : Int) := by
  unfold pickN
  have h2 := Int.emod_nonneg (if c < 0 then -(c + 1) else c) (b := (n : Int)) (by omega)
  omega
theorem pick_d (c : Int) (n : Nat) (hc : i64ok c) (hn : 0 < n) : Does Try.prog 13 [.int .i64 c, .int .i64 (n : Nat)] []
    (RetE (fun x : Nat => x = pickN c n ∧ x < n) (fun x => .int .i64 (x : Nat)) (fun _ => [])) := by
  refine Does.mono (post := Ret (.int .i64 ((if c < 0 then -(c + 1) else c) % (n : Int))) []) ?_ fun v ps ⟨e1, e2⟩ => ⟨pickN c n, ⟨rfl, pickN_lt c n hn⟩, by rw [e1, ← pickN_eq c n hn], e2⟩
  obtain ⟨h1, h2⟩ := hc
  (focus
    refine Xg.spec_of Go.Proofs.Try.func13 rfl Go.Proofs.Try.ntmps13 fun g F => ?_)
  (focus
    refine Xg.at_seq ?_
    refine Xg.at_region ?_
    refine Xg.ops_op (by kernel_rfl) (Xg.opx_pure ((iv 0)) rfl (fun _ => by kernel_rfl) ?_)
    refine Xg.ops_nil ?_
    refine Xg.at_seq ?_
    refine Xg.at_seq ?_
    refine Xg.at_region ?_
    refine Xg.ops_op (by kernel_rfl) (Xg.opx_pure ((iv c)) rfl (fun _ => by kernel_rfl) ?_)
    refine Xg.ops_op (by kernel_rfl) (Xg.opx_pure (.bool (decide ((c : Int) < ((0 : Int))))) rfl (fun _ => by kernel_rfl) ?_)
    refine Xg.ops_nil ?_
    refine Xg.at_dec (p := (c < (0 : Int))) (by kernel_rfl) (fun xh1 => ?_) (fun xh1 => ?_)
    refine Xg.at_region ?_
    refine Xg.ops_op (by kernel_rfl) (Xg.opx_pure ((iv c)) rfl (fun _ => by kernel_rfl) ?_)
    refine Xg.ops_op (by kernel_rfl) (Xg.opx_int .i64 (IntKind.wrap .i64 ((c + (1 : Int)))) rfl (fun _ => by kernel_rfl) (Xg.wrap_i64_in (by omega)) ?_)
    refine Xg.ops_op (by kernel_rfl) (Xg.opx_int .i64 (IntKind.wrap .i64 (((0 : Int) - (c + (1 : Int))))) rfl (fun _ => by kernel_rfl) (Xg.wrap_i64_in (by omega)) ?_)
    refine Xg.ops_op (by kernel_rfl) (Xg.opx_pure ((iv ((0 : Int) - (c + (1 : Int))))) rfl (fun _ => by kernel_rfl) ?_)
    refine Xg.ops_nil ?_
    refine Xg.at_seq ?_
    refine Xg.at_region ?_
    refine Xg.ops_op (by kernel_rfl) (Xg.opx_pure ((iv ((0 : Int) - (c + (1 : Int))))) rfl (fun _ => by kernel_rfl) ?_)
    refine Xg.ops_op (by kernel_rfl) (Xg.opx_pure ((iv (↑n : Int))) rfl (fun _ => by kernel_rfl) ?_)
    refine Xg.ops_op (by kernel_rfl) (Xg.opx_run (.int .i64 (((0 : Int) - (c + (1 : Int))) % ((↑n : Int)))) rfl (fun _ => Xg.run_rem (k1 := .i64) (m := ((0 : Int) - (c + (1 : Int)))) (e := ((↑n : Int))) (by kernel_rfl) (by kernel_rfl) (by omega) (by omega)) ?_)
    refine Xg.ops_op (by kernel_rfl) (Xg.opx_pure ((iv (((0 : Int) - (c + (1 : Int))) % (↑n : Int)))) rfl (fun _ => by kernel_rfl) ?_)
    refine Xg.ops_nil ?_
    refine Xg.at_ret_ps (v := (iv (((0 : Int) - (c + (1 : Int))) % (↑n : Int)))) [] [] Go.Proofs.Try.func13 (fun _ => by kernel_rfl) (by kernel_rfl) (by kernel_rfl) ?_
    rotate_left
    refine Xg.at_skip ?_
    refine Xg.at_seq ?_
    refine Xg.at_region ?_
    refine Xg.ops_op (by kernel_rfl) (Xg.opx_pure ((iv c)) rfl (fun _ => by kernel_rfl) ?_)
    refine Xg.ops_op (by kernel_rfl) (Xg.opx_pure ((iv (↑n : Int))) rfl (fun _ => by kernel_rfl) ?_)
    refine Xg.ops_op (by kernel_rfl) (Xg.opx_run (.int .i64 (c % ((↑n : Int)))) rfl (fun _ => Xg.run_rem (k1 := .i64) (m := c) (e := ((↑n : Int))) (by kernel_rfl) (by kernel_rfl) (by omega) (by omega)) ?_)
    refine Xg.ops_op (by kernel_rfl) (Xg.opx_pure ((iv (c % (↑n : Int)))) rfl (fun _ => by kernel_rfl) ?_)
    refine Xg.ops_nil ?_
    refine Xg.at_ret_ps (v := (iv (c % (↑n : Int)))) [] [] Go.Proofs.Try.func13 (fun _ => by kernel_rfl) (by kernel_rfl) (by kernel_rfl) ?_)
  all_goals exact ⟨by first | (rw [if_pos (by omega), Int.zero_sub]; done) | (rw [if_neg (by omega)]; done), rfl⟩
end Go.Proofs.Ytmplimmcjdkhlaa

/- The arena laws: the calls, where the Pool is as it must be. -/
namespace Go.Proofs.Ytmplimmcjdkhlaa
open Go.Sl Go.Xg
set_option linter.unusedVariables false
set_option linter.unusedSimpArgs false
set_option linter.unusedSectionVars false
set_option linter.unnecessarySimpa false
set_option maxHeartbeats 4000000
set_option maxRecDepth 100000

/-- Take: which of the free ones. -/
def tkI (σ : Po) (k : Nat) (pk : Int) : Nat := pickN pk (σ.fr k).length
def tkV (σ : Po) (k : Nat) (pk : Int) : Nat := ((σ.fr k).getD (tkI σ k pk) 0).toNat
def takP (σ : Po) (id : Nat) (r : Ar) (k : Nat) (pk : Int) : Po := takeσ σ id r k (tkI σ k pk) (tkV σ k pk)
section
variable {σ : Po} (h : Pinv σ) {id : Nat} {r : Ar} (hr : σ.ar id = some r)
include h hr
theorem Pinv.idlt : id < σ.na := by
  by_cases e : id < σ.na
  · exact e
  · rw [h.an id (by omega)] at hr; cases hr
theorem Pinv.us_ok : 0 ≤ r.us ∧ r.us ≤ 1000000 ∧ 0 ≤ r.q ∧ r.q ≤ 1000000 := by
  obtain ⟨u1, u2, u3, u4⟩ := h.au id r hr
  have := sumZ_nn σ r.tk
  omega
omit hr in
theorem Pinv.fr_at {k i : Nat} (hi : i < (σ.fr k).length) : ∃ v : Nat, (σ.fr k).getD i 0 = (v : Nat) ∧ v < σ.nb ∧ σ.cl v = k ∧ σ.bs v = none ∧ k < σ.nc ∧ ((v : Nat) : Int) ∈ σ.fr k := by
  have hm : (σ.fr k).getD i 0 ∈ σ.fr k := by
    rw [List.getD_eq_getElem?_getD, List.getElem?_eq_getElem hi]
    exact List.getElem_mem hi
  obtain ⟨h1, h2, h3⟩ := h.fr_rng hm
  refine ⟨((σ.fr k).getD i 0).toNat, by omega, by omega, h.fc k _ hm, h.fb k _ hm, h1, ?_⟩
  rw [Int.toNat_of_nonneg h2]; exact hm
theorem Pinv.tk_at {i : Nat} (hi : i < r.tk.length) : ∃ (b : Nat) (l : List Int), r.tk.getD i 0 = (b : Nat) ∧ b < σ.nb ∧ σ.cl b < σ.nc ∧ σ.bs b = some l ∧ l.length = σ.size (σ.cl b) ∧ fidx (fun x => ((b : Nat) : Int) == x) r.tk = i ∧ 1 ≤ l.length ∧ l.length ≤ 65536 := by
  have hm : r.tk.getD i 0 ∈ r.tk := by
    rw [List.getD_eq_getElem?_getD, List.getElem?_eq_getElem hi]
    exact List.getElem_mem hi
  obtain ⟨h1, h2, h3⟩ := h.tk_rng hr hm
  obtain ⟨l, hl1, hl2⟩ := h.ab id r _ hr hm
  obtain ⟨b, hb⟩ : ∃ b : Nat, r.tk.getD i 0 = (b : Nat) := ⟨(r.tk.getD i 0).toNat, by omega⟩
  have hbn : b < σ.nb := by omega
  have hc := h.cl b hbn
  rw [hb, Int.toNat_natCast] at hl1 hl2
  have hz := h.sz _ hc
  refine ⟨b, l, hb, hbn, hc, hl1, hl2, fidx_at 0 r.tk i hi (fun j hj => ?_) ?_, by omega, by omega⟩
  · have hn := (h.tk_nodup hr (by omega)).1
    have : r.tk.getD j 0 ≠ r.tk.getD i 0 := by
      rw [List.getD_eq_getElem?_getD, List.getD_eq_getElem?_getD, List.getElem?_eq_getElem hi, List.getElem?_eq_getElem (by omega)]
      exact List.pairwise_iff_getElem.1 hn j i (by omega) hi hj
    rw [hb] at this
    simpa using fun e => this e.symm
  · rw [hb]; simp
theorem Pinv.takP {k : Nat} {pk : Int} (hf : 0 < (σ.fr k).length) (hq : (σ.size k : Int) ≤ r.q - r.us) : Pinv (takP σ id r k pk) := by
  obtain ⟨v, h1, h2, h3, h4, h5, h6⟩ := h.fr_at (k := k) (pickN_lt pk _ hf)
  exact h.take hr h5 (pickN_lt pk _ hf) (show _ = ((tkV σ k pk : Nat) : Int) by unfold tkV tkI; rw [h1]; rfl) hq
variable (p : Nat)
theorem take_p (size pk : Int) (hpk : i64ok pk) (k : Nat) (hk : k < σ.nc) (hs0 : 1 ≤ size) (hs : size ≤ σ.size k) (hj : ∀ j, j < k → (σ.size j : Int) < size) (hq : (σ.size k : Int) ≤ r.q - r.us) (hf : 0 < (σ.fr k).length) :
    Does Try.prog 17 [.pointer (some ⟨p, 0, none⟩), .int .i64 (id : Nat), .int .i64 size, .int .i64 pk] [PoolS p σ]
    (Ret (.tuple #[.agg #[.int .i64 (tkV σ k pk : Nat), .int .i64 (k : Nat), .int .i64 (σ.size k : Nat)], .int .i64 0]) [PoolS p (takP σ id r k pk)]) := by
  have hid := h.idlt hr
  obtain ⟨a1, a2, a3, a4⟩ := h.us_ok hr
  obtain ⟨v, h1, h2, h3, h4, h5, h6⟩ := h.fr_at (k := k) (pickN_lt pk _ hf)
  have b1 := h.nb
  have b2 := h.nc
  have b3 := h.na
  have b4 := (h.sz k hk).2
  have b5 := h.fr_len k (by omega)
  have b6 := (h.tk_nodup hr (by omega)).2
  have e : tkV σ k pk = v := by unfold tkV tkI; rw [h1]; rfl
  unfold takP
  rw [e]
  exact takeS p σ id r hid hr b3 (by omega) (by omega) size pk hpk k v hk hs0 hs hj b4 hq (by omega) hf (by omega) _ (pickN_eq pk _ hf) h1 h2 h3 h4 (by omega)
theorem takeq_p (size pk : Int) (k : Nat) (hk : k < σ.nc) (hs0 : 1 ≤ size) (hs : size ≤ σ.size k) (hj : ∀ j, j < k → (σ.size j : Int) < size) (hq : r.q - r.us < σ.size k) :
    Does Try.prog 17 [.pointer (some ⟨p, 0, none⟩), .int .i64 (id : Nat), .int .i64 size, .int .i64 pk] [PoolS p σ] (Ret (.tuple #[.agg #[.int .i64 0, .int .i64 0, .int .i64 0], .int .i64 92]) [PoolS p σ]) := by
  obtain ⟨a1, a2, a3, a4⟩ := h.us_ok hr
  have b2 := h.nc
  exact takeQS p σ h.na (by omega) id (h.idlt hr) r hr size pk k hk hs0 hs hj (h.sz k hk).2 hq (by omega)
theorem takee_p (size pk : Int) (k : Nat) (hk : k < σ.nc) (hs0 : 1 ≤ size) (hs : size ≤ σ.size k) (hj : ∀ j, j < k → (σ.size j : Int) < size) (hq : (σ.size k : Int) ≤ r.q - r.us) (hf : (σ.fr k).length = 0) :
    Does Try.prog 17 [.pointer (some ⟨p, 0, none⟩), .int .i64 (id : Nat), .int .i64 size, .int .i64 pk] [PoolS p σ] (Ret (.tuple #[.agg #[.int .i64 0, .int .i64 0, .int .i64 0], .int .i64 96]) [PoolS p σ]) := by
  obtain ⟨a1, a2, a3, a4⟩ := h.us_ok hr
  have b2 := h.nc
  exact takeES p σ h.na (by omega) id (h.idlt hr) r hr size pk k hk hs0 hs hj (h.sz k hk).2 hq (by omega) hf
omit hr in
theorem Pinv.sd (k : Nat) (hna : 0 < σ.na) : Sd (σ.fr k) := by
  have b1 := h.nb
  have b5 := h.fr_len k hna
  refine ⟨h.fs k, fun x hx => ?_, by omega⟩
  have := h.fr_rng hx
  omega
theorem give_p (i b : Nat) (hi : i < r.tk.length) (hb : r.tk.getD i 0 = (b : Nat)) :
    Does Try.prog 23 [.pointer (some ⟨p, 0, none⟩), .int .i64 (id : Nat), .int .i64 (b : Nat)] [PoolS p σ] (Ret (.int .i64 0) [PoolS p (giveσ σ id r b i)]) := by
  obtain ⟨b', l, h1, h2, h3, h4, h5, h6, h7, h8⟩ := h.tk_at hr hi
  obtain rfl : b = b' := by omega
  obtain ⟨a1, a2, a3, a4⟩ := h.us_ok hr
  have hid := h.idlt hr
  have b1 := h.nb
  have b2 := h.nc
  have b6 := (h.tk_nodup hr (by omega)).2
  exact giveS p σ h.na (by omega) (by omega) id hid r hr b i h6 h2 h3 (h.sd _ (by omega)) (h.sz _ h3).2 (by omega) (by omega) l h4
theorem load_p (i b n : Nat) (hi : i < r.tk.length) (hb : r.tk.getD i 0 = (b : Nat)) (l : List Int) (hl : σ.bs b = some l) (hn : n ≤ l.length) : Does Try.prog 19 [.pointer (some ⟨p, 0, none⟩), .int .i64 (id : Nat), .int .i64 (b : Nat), .int .i64 0, .int .i64 (n : Nat)] [PoolS p σ]
    (RetE (fun z : Option Addr × Nat => True) (fun z => .tuple #[.slice z.1 n z.2, .int .i64 0]) (fun z => [PoolS p σ, Y2 z.1 z.2 (l.take n)])) := by
  obtain ⟨b', l', h1, h2, h3, h4, h5, h6, h7, h8⟩ := h.tk_at hr hi
  obtain rfl : b = b' := by omega
  obtain rfl : l = l' := by rw [h4] at hl; cases hl; rfl
  have b1 := h.nb
  exact loadS p σ h.na (by omega) id (h.idlt hr) r hr b 0 n (by omega) h2 l hl (by omega) h8
theorem store1_p (i b at0 : Nat) (x : Int) (hi : i < r.tk.length) (hb : r.tk.getD i 0 = (b : Nat)) (l : List Int) (hl : σ.bs b = some l) (hn : at0 < l.length) (y : Nat) : Does Try.prog 18 [.pointer (some ⟨p, 0, none⟩), .int .i64 (id : Nat), .int .i64 (b : Nat), .int .i64 (at0 : Nat), .slice (some ⟨y, 0, none⟩) 1 1] [PoolS p σ, row y 5 [.int .u8 x]]
    (Ret (.int .i64 0) [PoolS p (storeσ σ b (l.set at0 x)), row y 5 [.int .u8 x]]) := by
  obtain ⟨b', l', h1, h2, h3, h4, h5, h6, h7, h8⟩ := h.tk_at hr hi
  obtain rfl : b = b' := by omega
  obtain rfl : l = l' := by rw [h4] at hl; cases hl; rfl
  have b1 := h.nb
  have e : l.set at0 x = l.take at0 ++ [x] ++ l.drop (at0 + 1) := by
    rw [List.set_eq_take_append_cons_drop, if_pos hn, List.append_assoc]; rfl
  rw [e]
  exact storeS p σ h.na (by omega) id (h.idlt hr) r hr (row y 5 [.int .u8 x]) b at0 1 (some ⟨y, 0, none⟩) 1 [x] rfl (reads_row rfl (fun j v hv => by rwa [Nat.zero_add])) (by omega) h2 l hl (by omega) (by omega) h8
theorem Pinv.tk_all : ∀ x ∈ r.tk, 0 ≤ x ∧ x < σ.nb ∧ σ.cl x.toNat < σ.nc := fun x hx => by
  obtain ⟨h1, h2, h3⟩ := h.tk_rng hr hx
  exact ⟨h2, h3, h.cl _ (by omega)⟩
omit hr in
theorem free_p (k : Nat) (hk : k < σ.nc) (hna : 0 < σ.na) : Does Try.prog 27 [.pointer (some ⟨p, 0, none⟩), .int .i64 (k : Nat)] [PoolS p σ]
    (RetE (fun z : Option Addr × Nat => True) (fun z => .slice z.1 (σ.fr k).length z.2) (fun z => [PoolS p σ, I2 z.1 z.2 (σ.fr k)])) := by
  have b1 := h.nb
  have b2 := h.nc
  have b5 := h.fr_len k hna
  exact freeS p σ k hk (by omega) (by omega)
end
end Go.Proofs.Ytmplimmcjdkhlaa
