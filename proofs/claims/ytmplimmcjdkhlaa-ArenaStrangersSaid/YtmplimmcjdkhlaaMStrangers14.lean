import Derived.Test.YtmplimmcjdkhlaaMStrangers13
/- The arena law: ArenaStrangers. -/
namespace Go.Proofs.Ytmplimmcjdkhlaa
open Go.Sl Go.Xg
set_option linter.unusedVariables false
set_option linter.unusedSimpArgs false
set_option linter.unnecessarySimpa false
set_option maxHeartbeats 4000000
set_option maxRecDepth 100000

theorem str_take (pk : Int) (hpk : -9223372036854775808 ≤ pk ∧ pk ≤ 9223372036854775807) : ∃ (v : Nat) (σ : Po), (v = 2 ∨ v = 3) ∧ (σ.na = 5 ∧ σ.nb = 4 ∧ σ.ar 0 = some ⟨100, 16, [(v : Int)]⟩ ∧ σ.ar 1 = some ⟨100, 0, []⟩ ∧ σ.ar 4 = none ∧ σ.bs v = some (List.replicate 16 0)) ∧
    ∀ p, Does Try.prog 17 [.pointer (some ⟨p, 0, none⟩), .int .i64 0, .int .i64 16, .int .i64 pk] [PoolS p (opsσ 2 100 4)] (Ret (.tuple #[.agg #[.int .i64 (v : Nat), .int .i64 1, .int .i64 16], .int .i64 0]) [PoolS p σ]) := by
  obtain ⟨y, hy⟩ : ∃ y : Int, (if pk < 0 then -(pk + 1) else pk) = y := ⟨_, rfl⟩
  have h1 : 0 ≤ y := by rw [← hy]; split <;> omega
  have h2 := Int.emod_lt_of_pos y (b := 2) (by decide)
  have h3 := Int.emod_nonneg y (b := 2) (by decide)
  obtain ⟨i, hi⟩ : ∃ i : Nat, (i : Int) = y % 2 := ⟨(y % 2).toNat, by omega⟩
  have hi2 : i = 0 ∨ i = 1 := by omega
  have hfr : (opsσ 2 100 4).fr 1 = [2, 3] := by decide
  have key : ∀ v : Nat, (v = 2 ∨ v = 3) → [2, 3].getD i (0 : Int) = (v : Nat) → ∀ p, Does Try.prog 17 [.pointer (some ⟨p, 0, none⟩), .int .i64 0, .int .i64 16, .int .i64 pk] [PoolS p (opsσ 2 100 4)] (Ret (.tuple #[.agg #[.int .i64 (v : Nat), .int .i64 1, .int .i64 16], .int .i64 0]) [PoolS p (takeσ (opsσ 2 100 4) 0 ⟨100, 0, []⟩ 1 i v)]) := fun v hv hg p =>
    takeS p (opsσ 2 100 4) 0 ⟨100, 0, []⟩ (by decide) rfl (by decide) (by decide) (by decide) 16 pk hpk 1 v (by decide) (by decide) (by decide) (fun j hj => by (have h0 : j = 0 := by omega); subst h0; decide) (by decide) (by decide) (by decide) (by rw [hfr]; decide) (by rw [hfr]; decide) i (by rw [hfr, hy]; exact hi) (by rw [hfr]; exact hg) (by rcases hv with rfl | rfl <;> decide) (by rcases hv with rfl | rfl <;> decide) rfl (by decide)
  rcases hi2 with rfl | rfl
  · exact ⟨2, _, .inl rfl, ⟨rfl, rfl, rfl, rfl, rfl, rfl⟩, key 2 (.inl rfl) rfl⟩
  · exact ⟨3, _, .inr rfl, ⟨rfl, rfl, rfl, rfl, rfl, rfl⟩, key 3 (.inr rfl) rfl⟩

set_option maxHeartbeats 0 in
theorem pstrangers_d (A : HP) (bu : Int) (hbu : i64ok bu) (id : Int) (hid : i64ok id) (a : Option Addr) (m c : Nat) (xs : List Int) (hm : xs.length = m) (hmx : m ≤ maxLen) (hR : Reads A 1 (.slice a m c) m (xs.map (Value.int .u8))) (hB : ∀ i, i < m → 0 ≤ xs.getD i 0 ∧ xs.getD i 0 ≤ 255) :
    Does Try.prog 10 [.int .i64 bu, .int .i64 id, .slice a m c] [A] (Ret (.bool true) [A]) := by
  have hm2 : m ≤ 9223372036854775807 := by unfold maxLen at hmx; omega
  obtain ⟨v, σ, hv, ⟨s1, s2, s3, s4, s5, s6⟩, ht⟩ := str_take bu hbu
  have hh := house_d 2 100 (by decide) (by decide) (by decide)
  have hfv : fidx (fun x => ((v : Nat) : Int) == x) [(v : Int)] = 0 := by simp [fidx]
  obtain ⟨τ, hτ⟩ : ∃ τ, storeσ σ v (1 :: 2 :: 3 :: List.replicate 13 0) = τ := ⟨_, rfl⟩
  have t1 : τ.na = 5 := by rw [← hτ]; exact s1
  have t2 : τ.nb = 4 := by rw [← hτ]; exact s2
  have t3 : τ.ar 0 = some ⟨100, 16, [(v : Int)]⟩ := by rw [← hτ]; exact s3
  have t4 : τ.ar 1 = some ⟨100, 0, []⟩ := by rw [← hτ]; exact s4
  have t5 : τ.ar 4 = none := by rw [← hτ]; exact s5
  have t6 : τ.bs v = some (1 :: 2 :: 3 :: List.replicate 13 0) := by rw [← hτ]; exact updF_same _ _ _
  have hst : ∀ p b, Does Try.prog 18 [.pointer (some ⟨p, 0, none⟩), .int .i64 0, .int .i64 (v : Nat), .int .i64 0, .slice (some ⟨b, 0, none⟩) 3 3] [PoolS p σ, row b 5 [.int .u8 1, .int .u8 2, .int .u8 3]] (Ret (.int .i64 0) [PoolS p τ, row b 5 [.int .u8 1, .int .u8 2, .int .u8 3]]) := fun p b => by
    have h := storeS p σ (by omega) (by omega) 0 (by omega) _ s3 (row b 5 [.int .u8 1, .int .u8 2, .int .u8 3]) v 0 3 (some ⟨b, 0, none⟩) 3 [1, 2, 3] rfl (reads_row rfl (fun j v hv => by rwa [Nat.zero_add])) (by rw [hfv]; decide) (by omega) _ s6 (by decide) (by decide) (by decide)
    rw [← hτ]
    exact h
  have rfl0 : fidx (fun x => ((v : Nat) : Int) == x) ([] : List Int) < 0 := by simp [fidx]
  have hl4 : ([0, 1, 2, 3] : List Int).length = 4 := rfl
  have hl1 : ∀ p, _ := fun p => load_not p τ (by omega) 1 (by omega) _ t4 (v : Nat) rfl0 0 1
  have hs1 : ∀ p, _ := fun p => store_not p τ (by omega) 1 (by omega) _ t4 (v : Nat) rfl0 A 0 a m c hm2
  have hg1 : ∀ p, _ := fun p => give_not p τ (by omega) 1 (by omega) _ t4 (v : Nat) rfl0
  (focus
    refine Xg.spec_of Go.Proofs.Try.func10 rfl Go.Proofs.Try.ntmps10 fun g F => ?_)
  (focus
    refine Xg.at_seq ?_
    refine Xg.at_region ?_
    refine Xg.ops_op (by kernel_rfl) (Xg.opx_pure ((Value.bool false)) rfl (fun _ => by kernel_rfl) ?_)
    refine Xg.ops_nil ?_
    refine Xg.at_seq ?_
    refine Xg.at_region ?_
    refine Xg.ops_op (by kernel_rfl) (Xg.opx_callE' [] (fun xx1 => [PoolS xx1.fst (opsσ (2 : Nat) (100 : Int) (4 : Nat)), recsO (62 : Nat) (3 : Nat) hdC xx1.snd.fst xx1.snd.snd [(0 : Int), (1 : Int), (2 : Int), (3 : Int)], A]) (fun _ => by kernel_rfl) (@hh ) (by kernel_rfl) (by kernel_rfl) (by kernel_rfl) fun xx1 xh1 => ?_)
    try dsimp only at xh1
    refine Xg.ops_op (by kernel_rfl) (Xg.opx_pure ((Value.tuple #[pv xx1.fst 0, Value.slice xx1.snd.fst (4 : Nat) xx1.snd.snd, Value.bool true])) rfl (fun _ => by kernel_rfl) ?_)
    refine Xg.ops_op (by kernel_rfl) (Xg.opx_pure ((pv xx1.fst 0)) rfl (fun _ => by kernel_rfl) ?_)
    refine Xg.ops_op (by kernel_rfl) (Xg.opx_pure ((Value.slice xx1.snd.fst (4 : Nat) xx1.snd.snd)) rfl (fun _ => by kernel_rfl) ?_)
    refine Xg.ops_op (by kernel_rfl) (Xg.opx_pure ((Value.bool true)) rfl (fun _ => by kernel_rfl) ?_)
    refine Xg.ops_op (by kernel_rfl) (Xg.opx_pure ((pv xx1.fst 0)) rfl (fun _ => by kernel_rfl) ?_)
    refine Xg.ops_op (by kernel_rfl) (Xg.opx_pure ((Value.slice xx1.snd.fst (4 : Nat) xx1.snd.snd)) rfl (fun _ => by kernel_rfl) ?_)
    refine Xg.ops_op (by kernel_rfl) (Xg.opx_pure ((Value.bool true)) rfl (fun _ => by kernel_rfl) ?_)
    refine Xg.ops_nil ?_
    refine Xg.at_seq ?_
    refine Xg.at_seq ?_
    refine Xg.at_region ?_
    refine Xg.ops_op (by kernel_rfl) (Xg.opx_pure ((Value.bool true)) rfl (fun _ => by kernel_rfl) ?_)
    refine Xg.ops_op (by kernel_rfl) (Xg.opx_pure (.bool false) rfl (fun _ => by kernel_rfl) ?_)
    refine Xg.ops_nil ?_
    refine Xg.at_false (t := false) (by kernel_rfl) rfl ?_
    refine Xg.at_skip ?_
    refine Xg.at_seq ?_
    refine Xg.at_region ?_
    refine Xg.ops_op (by kernel_rfl) (Xg.opx_pure ((pv xx1.fst 0)) rfl (fun _ => by kernel_rfl) ?_)
    refine Xg.ops_op (by kernel_rfl) (Xg.opx_pure ((Value.slice xx1.snd.fst (4 : Nat) xx1.snd.snd)) rfl (fun _ => by kernel_rfl) ?_)
    refine Xg.ops_op (by kernel_rfl) (Xg.opx_ix_own (elem := 62) (kd := .i64) (e := ((0 : Int))) 1 3 ((0 : Nat)) ((0 : Nat)) rfl (by kernel_rfl) (by kernel_rfl) (by kernel_rfl) (by kernel_rfl) rfl (by omega) (by omega) ?_)
    refine Xg.ops_op (by kernel_rfl) (Xg.opx_pure ((pv (blk xx1.snd.fst) 0)) rfl (fun _ => by kernel_rfl) ?_)
    refine Xg.ops_op (by kernel_rfl) (Xg.opx_load_own (a := xx1.snd.fst) (off := ((0 : Nat))) 1 (iv 0) rfl (by kernel_rfl) (Xg.get_recs' (wd := 3) (fun _ => rfl) default ((0 : Nat)) 0 (by omega) (by decide) (by omega) (by kernel_rfl)) (by kernel_rfl) ?_)
    refine Xg.ops_op (by kernel_rfl) (Xg.opx_pure ((iv bu)) rfl (fun _ => by kernel_rfl) ?_)
    refine Xg.ops_op (by kernel_rfl) (Xg.opx_call1' [0] [PoolS xx1.fst σ, recsO (62 : Nat) (3 : Nat) hdC xx1.snd.fst xx1.snd.snd [(0 : Int), (1 : Int), (2 : Int), (3 : Int)], A] (fun _ => by kernel_rfl) (@ht (xx1.fst)) (by kernel_rfl) (by kernel_rfl) (by kernel_rfl) ?_)
    refine Xg.ops_op (by kernel_rfl) (Xg.opx_pure ((Value.tuple #[Value.agg #[iv (↑v : Int), iv 1, iv 16], iv 0])) rfl (fun _ => by kernel_rfl) ?_)
    refine Xg.ops_op (by kernel_rfl) (Xg.opx_pure ((Value.agg #[iv (↑v : Int), iv 1, iv 16])) rfl (fun _ => by kernel_rfl) ?_)
    refine Xg.ops_op (by kernel_rfl) (Xg.opx_pure ((iv 0)) rfl (fun _ => by kernel_rfl) ?_)
    refine Xg.ops_op (by kernel_rfl) (Xg.opx_new 3 [iv 0, iv 0, iv 0] (by kernel_rfl) (by kernel_rfl) fun xb1 => ?_)
    refine Xg.ops_op (by kernel_rfl) (Xg.opx_storen 3 (off := 0) 0 [iv (↑v : Int), iv 1, iv 16] (by kernel_rfl) rfl (by kernel_rfl) (by kernel_rfl) rfl (by kernel_rfl) (Nat.le_of_ble_eq_true (by kernel_rfl)) ?_)
    refine Xg.ops_op (by kernel_rfl) (Xg.opx_pure ((iv 0)) rfl (fun _ => by kernel_rfl) ?_)
    refine Xg.ops_nil ?_
    refine Xg.at_seq ?_
    refine Xg.at_draw [7, 8] [(2, [0, 1, 2, 5, 6, 7], (RdIs (3 : Nat) (Value.slice xx1.snd.fst [(0 : Int), (1 : Int), (2 : Int), (3 : Int)].length xx1.snd.snd) [(0 : Int), (1 : Int), (2 : Int), (3 : Int)].length (recs hdC [(0 : Int), (1 : Int), (2 : Int), (3 : Int)]))), (4, [0, 1, 2, 3, 4, 5, 6, 7], (RdIs (3 : Nat) (Value.slice xx1.snd.fst [(0 : Int), (1 : Int), (2 : Int), (3 : Int)].length xx1.snd.snd) [(0 : Int), (1 : Int), (2 : Int), (3 : Int)].length (recs hdC [(0 : Int), (1 : Int), (2 : Int), (3 : Int)]))), (6, [0, 1, 2, 3, 4, 5, 6, 7], Xg.CellIs (xb1) (((0 : Nat))) ((iv (↑v : Int))))] (by kernel_rfl) ?_
    refine Xg.any_pure ((pv xx1.fst 0)) 0 (by kernel_rfl) rfl (by kernel_rfl) (by kernel_rfl) (by kernel_rfl) (by kernel_rfl) rfl (fun _ => by kernel_rfl) ?_
    refine Xg.any_pure ((Value.slice xx1.snd.fst (4 : Nat) xx1.snd.snd)) 1 (by kernel_rfl) rfl (by kernel_rfl) (by kernel_rfl) (by kernel_rfl) (by kernel_rfl) rfl (fun _ => by kernel_rfl) ?_
    refine Xg.any_reads (.pointer (some (Addr.mk (Xg.blk xx1.snd.fst) (offA xx1.snd.fst + (0 : Nat)) none))) 2 0 (by kernel_rfl) rfl (by kernel_rfl) (by kernel_rfl) (by kernel_rfl) (by kernel_rfl) rfl rfl (by kernel_rfl) (Xg.rd_now 2 (Xg.reads_own (E := ((62 : Nat))) (sz := ((3 : Nat))) (n := ([(0 : Int), (1 : Int), (2 : Int), (3 : Int)].length)) (c := xx1.snd.snd) (a := xx1.snd.fst) (vs := (recs hdC [(0 : Int), (1 : Int), (2 : Int), (3 : Int)]))) (by kernel_rfl)) (Xg.run_ix_rd (elem := 62) (kd := .i64) (e := ((0 : Int))) 3 ((0 : Nat)) (offA xx1.snd.fst + (0 : Nat)) (by kernel_rfl) (by kernel_rfl) (by kernel_rfl) (by kernel_rfl) rfl (by omega) (by rw [Xg.recs_len (wd := 3) (fun _ => rfl)]; omega) (by omega)) ?_
    refine Xg.any_pure ((Value.pointer (some (Addr.mk (blk xx1.snd.fst) (offA xx1.snd.fst) none)))) 3 (by kernel_rfl) rfl (by kernel_rfl) (by kernel_rfl) (by kernel_rfl) (by kernel_rfl) rfl (fun _ => by kernel_rfl) ?_
    refine Xg.any_reads (iv 0) 4 1 (by kernel_rfl) rfl (by kernel_rfl) (by kernel_rfl) (by kernel_rfl) (by kernel_rfl) rfl rfl (by kernel_rfl) (Xg.rd_now 2 (Xg.reads_own (E := ((62 : Nat))) (sz := ((3 : Nat))) (n := ([(0 : Int), (1 : Int), (2 : Int), (3 : Int)].length)) (c := xx1.snd.snd) (a := xx1.snd.fst) (vs := (recs hdC [(0 : Int), (1 : Int), (2 : Int), (3 : Int)]))) (by kernel_rfl)) (Xg.run_load_rd (off0 := (offA xx1.snd.fst)) ((0 : Nat)) (by kernel_rfl) (by omega) (Xg.get_recs' (wd := 3) (fun _ => rfl) default ((0 : Nat)) 0 (by omega) (by decide) (by omega) (by kernel_rfl)) (by kernel_rfl)) ?_
    refine Xg.any_pure ((pv xb1 0)) 5 (by kernel_rfl) rfl (by kernel_rfl) (by kernel_rfl) (by kernel_rfl) (by kernel_rfl) rfl (fun _ => by kernel_rfl) ?_
    refine Xg.any_reads (iv (↑v : Int)) 6 2 (by kernel_rfl) rfl (by kernel_rfl) (by kernel_rfl) (by kernel_rfl) (by kernel_rfl) rfl rfl (by kernel_rfl) (Xg.cell_now (b := xb1) (off := ((0 : Nat))) 0 rfl (by kernel_rfl)) (fun _ h => Xg.run_load (by kernel_rfl) (by kernel_rfl) h) ?_
    refine Xg.any_each [7] (by kernel_rfl) rfl ⟨?_, trivial⟩
    refine Xg.comes_act rfl (by kernel_rfl) (by kernel_rfl) (Xg.opx_bs (elem := 5) 1 [uv 1, uv 2, uv 3] [uv 1, uv 2, uv 3] (by kernel_rfl) (by kernel_rfl) (by decide) rfl (by kernel_rfl) (by kernel_rfl) (by kernel_rfl) (by kernel_rfl) fun xb2 => ?_)
    refine Xg.acts (Xg.owes_rd 3 (Xg.reads_own (E := ((62 : Nat))) (sz := ((3 : Nat))) (n := ([(0 : Int), (1 : Int), (2 : Int), (3 : Int)].length)) (c := xx1.snd.snd) (a := xx1.snd.fst) (vs := (recs hdC [(0 : Int), (1 : Int), (2 : Int), (3 : Int)]))) (by kernel_rfl) (Xg.owes_rd 3 (Xg.reads_own (E := ((62 : Nat))) (sz := ((3 : Nat))) (n := ([(0 : Int), (1 : Int), (2 : Int), (3 : Int)].length)) (c := xx1.snd.snd) (a := xx1.snd.fst) (vs := (recs hdC [(0 : Int), (1 : Int), (2 : Int), (3 : Int)]))) (by kernel_rfl) (Xg.owes_cell 1 rfl (by kernel_rfl) Xg.owes_nil))) ?_
    refine Xg.any_each [8] (by kernel_rfl) rfl ⟨?_, trivial⟩
    refine Xg.comes_act rfl (by kernel_rfl) (by kernel_rfl) (Xg.opx_call1' [2, 0] [PoolS xx1.fst τ, row xb2 (5 : TypeId) [uv 1, uv 2, uv 3], row xb1 (42 : Nat) [iv (↑v : Int), iv 1, iv 16], recsO (62 : Nat) (3 : Nat) hdC xx1.snd.fst xx1.snd.snd [(0 : Int), (1 : Int), (2 : Int), (3 : Int)], A] (fun _ => by kernel_rfl) (@hst (xx1.fst) (xb2)) (by kernel_rfl) (by kernel_rfl) (by kernel_rfl) ?_)
    refine Xg.acts (Xg.owes_skip (by kernel_rfl) (Xg.owes_skip (by kernel_rfl) (Xg.owes_skip (by kernel_rfl) Xg.owes_nil))) ?_
    refine Xg.any_pure ((iv 0)) 9 (by kernel_rfl) rfl (by kernel_rfl) (by kernel_rfl) (by kernel_rfl) (by kernel_rfl) rfl (fun _ => by kernel_rfl) ?_
    refine Xg.any_nil (by kernel_rfl) ?_
    refine Xg.at_seq ?_
    refine Xg.at_seq ?_
    refine Xg.at_region ?_
    refine Xg.ops_op (by kernel_rfl) (Xg.opx_pure ((iv 0)) rfl (fun _ => by kernel_rfl) ?_)
    refine Xg.ops_op (by kernel_rfl) (Xg.opx_pure ((Value.bool false)) rfl (fun _ => by kernel_rfl) ?_)
    refine Xg.ops_op (by kernel_rfl) (Xg.opx_pure ((Value.bool false)) rfl (fun _ => by kernel_rfl) ?_)
    refine Xg.ops_op (by kernel_rfl) (Xg.opx_pure ((iv 0)) rfl (fun _ => by kernel_rfl) ?_)
    refine Xg.ops_op (by kernel_rfl) (Xg.opx_pure ((Value.bool false)) rfl (fun _ => by kernel_rfl) ?_)
    refine Xg.ops_op (by kernel_rfl) (Xg.opx_pure ((Value.bool false)) rfl (fun _ => by kernel_rfl) ?_)
    refine Xg.ops_nil ?_
    refine Xg.at_false (t := false) (by kernel_rfl) rfl ?_
    refine Xg.at_skip ?_
    refine Xg.at_seq ?_
    refine Xg.at_draw [7] [(2, [0, 1, 2, 5, 6], (RdIs (3 : Nat) (Value.slice xx1.snd.fst [(0 : Int), (1 : Int), (2 : Int), (3 : Int)].length xx1.snd.snd) [(0 : Int), (1 : Int), (2 : Int), (3 : Int)].length (recs hdC [(0 : Int), (1 : Int), (2 : Int), (3 : Int)]))), (4, [0, 1, 2, 3, 4, 5, 6], (RdIs (3 : Nat) (Value.slice xx1.snd.fst [(0 : Int), (1 : Int), (2 : Int), (3 : Int)].length xx1.snd.snd) [(0 : Int), (1 : Int), (2 : Int), (3 : Int)].length (recs hdC [(0 : Int), (1 : Int), (2 : Int), (3 : Int)]))), (6, [0, 1, 2, 3, 4, 5, 6], Xg.CellIs (xb1) (((0 : Nat))) ((iv (↑v : Int))))] (by kernel_rfl) ?_
    refine Xg.any_pure ((pv xx1.fst 0)) 0 (by kernel_rfl) rfl (by kernel_rfl) (by kernel_rfl) (by kernel_rfl) (by kernel_rfl) rfl (fun _ => by kernel_rfl) ?_
    refine Xg.any_pure ((Value.slice xx1.snd.fst (4 : Nat) xx1.snd.snd)) 1 (by kernel_rfl) rfl (by kernel_rfl) (by kernel_rfl) (by kernel_rfl) (by kernel_rfl) rfl (fun _ => by kernel_rfl) ?_
    refine Xg.any_reads (.pointer (some (Addr.mk (Xg.blk xx1.snd.fst) (offA xx1.snd.fst + (3 : Nat)) none))) 2 0 (by kernel_rfl) rfl (by kernel_rfl) (by kernel_rfl) (by kernel_rfl) (by kernel_rfl) rfl rfl (by kernel_rfl) (Xg.rd_now 3 (Xg.reads_own (E := ((62 : Nat))) (sz := ((3 : Nat))) (n := ([(0 : Int), (1 : Int), (2 : Int), (3 : Int)].length)) (c := xx1.snd.snd) (a := xx1.snd.fst) (vs := (recs hdC [(0 : Int), (1 : Int), (2 : Int), (3 : Int)]))) (by kernel_rfl)) (Xg.run_ix_rd (elem := 62) (kd := .i64) (e := ((1 : Int))) 3 ((1 : Nat)) (offA xx1.snd.fst + (3 : Nat)) (by kernel_rfl) (by kernel_rfl) (by kernel_rfl) (by kernel_rfl) rfl (by omega) (by rw [Xg.recs_len (wd := 3) (fun _ => rfl)]; omega) (by omega)) ?_
    refine Xg.any_pure ((Value.pointer (some (Addr.mk (blk xx1.snd.fst) (offA xx1.snd.fst + (3 : Nat)) none)))) 3 (by kernel_rfl) rfl (by kernel_rfl) (by kernel_rfl) (by kernel_rfl) (by kernel_rfl) rfl (fun _ => by kernel_rfl) ?_
    refine Xg.any_reads (iv 1) 4 1 (by kernel_rfl) rfl (by kernel_rfl) (by kernel_rfl) (by kernel_rfl) (by kernel_rfl) rfl rfl (by kernel_rfl) (Xg.rd_now 3 (Xg.reads_own (E := ((62 : Nat))) (sz := ((3 : Nat))) (n := ([(0 : Int), (1 : Int), (2 : Int), (3 : Int)].length)) (c := xx1.snd.snd) (a := xx1.snd.fst) (vs := (recs hdC [(0 : Int), (1 : Int), (2 : Int), (3 : Int)]))) (by kernel_rfl)) (Xg.run_load_rd (off0 := (offA xx1.snd.fst + (3 : Nat))) ((3 : Nat)) (by kernel_rfl) (by omega) (Xg.get_recs' (wd := 3) (fun _ => rfl) default ((1 : Nat)) 0 (by omega) (by decide) (by omega) (by kernel_rfl)) (by kernel_rfl)) ?_
    refine Xg.any_pure ((pv xb1 0)) 5 (by kernel_rfl) rfl (by kernel_rfl) (by kernel_rfl) (by kernel_rfl) (by kernel_rfl) rfl (fun _ => by kernel_rfl) ?_
    refine Xg.any_reads (iv (↑v : Int)) 6 2 (by kernel_rfl) rfl (by kernel_rfl) (by kernel_rfl) (by kernel_rfl) (by kernel_rfl) rfl rfl (by kernel_rfl) (Xg.cell_now (b := xb1) (off := ((0 : Nat))) 2 rfl (by kernel_rfl)) (fun _ h => Xg.run_load (by kernel_rfl) (by kernel_rfl) h) ?_
    refine Xg.any_each [7] (by kernel_rfl) rfl ⟨?_, trivial⟩
    refine Xg.comes_act rfl (by kernel_rfl) (by kernel_rfl) (Xg.opx_call1' [0] [PoolS xx1.fst τ, row xb2 (5 : TypeId) [uv 1, uv 2, uv 3], row xb1 (42 : Nat) [iv (↑v : Int), iv 1, iv 16], recsO (62 : Nat) (3 : Nat) hdC xx1.snd.fst xx1.snd.snd [(0 : Int), (1 : Int), (2 : Int), (3 : Int)], A] (fun _ => by kernel_rfl) (@hl1 (xx1.fst)) (by kernel_rfl) (by kernel_rfl) (by kernel_rfl) ?_)
    refine Xg.acts (Xg.owes_skip (by kernel_rfl) (Xg.owes_skip (by kernel_rfl) (Xg.owes_skip (by kernel_rfl) Xg.owes_nil))) ?_
    refine Xg.any_pure ((Value.tuple #[Value.slice none (0 : Nat) (0 : Nat), iv 97])) 8 (by kernel_rfl) rfl (by kernel_rfl) (by kernel_rfl) (by kernel_rfl) (by kernel_rfl) rfl (fun _ => by kernel_rfl) ?_
    refine Xg.any_pure ((Value.slice none (0 : Nat) (0 : Nat))) 9 (by kernel_rfl) rfl (by kernel_rfl) (by kernel_rfl) (by kernel_rfl) (by kernel_rfl) rfl (fun _ => by kernel_rfl) ?_
    refine Xg.any_pure ((iv 97)) 10 (by kernel_rfl) rfl (by kernel_rfl) (by kernel_rfl) (by kernel_rfl) (by kernel_rfl) rfl (fun _ => by kernel_rfl) ?_
    refine Xg.any_pure ((iv 97)) 11 (by kernel_rfl) rfl (by kernel_rfl) (by kernel_rfl) (by kernel_rfl) (by kernel_rfl) rfl (fun _ => by kernel_rfl) ?_
    refine Xg.any_nil (by kernel_rfl) ?_
    refine Xg.at_seq ?_
    refine Xg.at_draw [8] [(2, [0, 1, 2, 5, 6, 7], (RdIs (3 : Nat) (Value.slice xx1.snd.fst [(0 : Int), (1 : Int), (2 : Int), (3 : Int)].length xx1.snd.snd) [(0 : Int), (1 : Int), (2 : Int), (3 : Int)].length (recs hdC [(0 : Int), (1 : Int), (2 : Int), (3 : Int)]))), (4, [0, 1, 2, 3, 4, 5, 6, 7], (RdIs (3 : Nat) (Value.slice xx1.snd.fst [(0 : Int), (1 : Int), (2 : Int), (3 : Int)].length xx1.snd.snd) [(0 : Int), (1 : Int), (2 : Int), (3 : Int)].length (recs hdC [(0 : Int), (1 : Int), (2 : Int), (3 : Int)]))), (6, [0, 1, 2, 3, 4, 5, 6, 7], Xg.CellIs (xb1) (((0 : Nat))) ((iv (↑v : Int))))] (by kernel_rfl) ?_
    refine Xg.any_pure ((pv xx1.fst 0)) 0 (by kernel_rfl) rfl (by kernel_rfl) (by kernel_rfl) (by kernel_rfl) (by kernel_rfl) rfl (fun _ => by kernel_rfl) ?_
    refine Xg.any_pure ((Value.slice xx1.snd.fst (4 : Nat) xx1.snd.snd)) 1 (by kernel_rfl) rfl (by kernel_rfl) (by kernel_rfl) (by kernel_rfl) (by kernel_rfl) rfl (fun _ => by kernel_rfl) ?_
    refine Xg.any_reads (.pointer (some (Addr.mk (Xg.blk xx1.snd.fst) (offA xx1.snd.fst + (3 : Nat)) none))) 2 0 (by kernel_rfl) rfl (by kernel_rfl) (by kernel_rfl) (by kernel_rfl) (by kernel_rfl) rfl rfl (by kernel_rfl) (Xg.rd_now 3 (Xg.reads_own (E := ((62 : Nat))) (sz := ((3 : Nat))) (n := ([(0 : Int), (1 : Int), (2 : Int), (3 : Int)].length)) (c := xx1.snd.snd) (a := xx1.snd.fst) (vs := (recs hdC [(0 : Int), (1 : Int), (2 : Int), (3 : Int)]))) (by kernel_rfl)) (Xg.run_ix_rd (elem := 62) (kd := .i64) (e := ((1 : Int))) 3 ((1 : Nat)) (offA xx1.snd.fst + (3 : Nat)) (by kernel_rfl) (by kernel_rfl) (by kernel_rfl) (by kernel_rfl) rfl (by omega) (by rw [Xg.recs_len (wd := 3) (fun _ => rfl)]; omega) (by omega)) ?_
    refine Xg.any_pure ((Value.pointer (some (Addr.mk (blk xx1.snd.fst) (offA xx1.snd.fst + (3 : Nat)) none)))) 3 (by kernel_rfl) rfl (by kernel_rfl) (by kernel_rfl) (by kernel_rfl) (by kernel_rfl) rfl (fun _ => by kernel_rfl) ?_
    refine Xg.any_reads (iv 1) 4 1 (by kernel_rfl) rfl (by kernel_rfl) (by kernel_rfl) (by kernel_rfl) (by kernel_rfl) rfl rfl (by kernel_rfl) (Xg.rd_now 3 (Xg.reads_own (E := ((62 : Nat))) (sz := ((3 : Nat))) (n := ([(0 : Int), (1 : Int), (2 : Int), (3 : Int)].length)) (c := xx1.snd.snd) (a := xx1.snd.fst) (vs := (recs hdC [(0 : Int), (1 : Int), (2 : Int), (3 : Int)]))) (by kernel_rfl)) (Xg.run_load_rd (off0 := (offA xx1.snd.fst + (3 : Nat))) ((3 : Nat)) (by kernel_rfl) (by omega) (Xg.get_recs' (wd := 3) (fun _ => rfl) default ((1 : Nat)) 0 (by omega) (by decide) (by omega) (by kernel_rfl)) (by kernel_rfl)) ?_
    refine Xg.any_pure ((pv xb1 0)) 5 (by kernel_rfl) rfl (by kernel_rfl) (by kernel_rfl) (by kernel_rfl) (by kernel_rfl) rfl (fun _ => by kernel_rfl) ?_
    refine Xg.any_reads (iv (↑v : Int)) 6 2 (by kernel_rfl) rfl (by kernel_rfl) (by kernel_rfl) (by kernel_rfl) (by kernel_rfl) rfl rfl (by kernel_rfl) (Xg.cell_now (b := xb1) (off := ((0 : Nat))) 2 rfl (by kernel_rfl)) (fun _ h => Xg.run_load (by kernel_rfl) (by kernel_rfl) h) ?_
    refine Xg.any_pure ((Value.slice a m c)) 7 (by kernel_rfl) rfl (by kernel_rfl) (by kernel_rfl) (by kernel_rfl) (by kernel_rfl) rfl (fun _ => by kernel_rfl) ?_
    refine Xg.any_each [8] (by kernel_rfl) rfl ⟨?_, trivial⟩
    refine Xg.comes_act rfl (by kernel_rfl) (by kernel_rfl) (Xg.opx_call1' [0, 4] [PoolS xx1.fst τ, A, row xb2 (5 : TypeId) [uv 1, uv 2, uv 3], row xb1 (42 : Nat) [iv (↑v : Int), iv 1, iv 16], recsO (62 : Nat) (3 : Nat) hdC xx1.snd.fst xx1.snd.snd [(0 : Int), (1 : Int), (2 : Int), (3 : Int)]] (fun _ => by kernel_rfl) (@hs1 (xx1.fst)) (by kernel_rfl) (by kernel_rfl) (by kernel_rfl) ?_)
    refine Xg.acts (Xg.owes_skip (by kernel_rfl) (Xg.owes_skip (by kernel_rfl) (Xg.owes_skip (by kernel_rfl) Xg.owes_nil))) ?_
    refine Xg.any_pure ((iv 97)) 9 (by kernel_rfl) rfl (by kernel_rfl) (by kernel_rfl) (by kernel_rfl) (by kernel_rfl) rfl (fun _ => by kernel_rfl) ?_
    refine Xg.any_nil (by kernel_rfl) ?_
    refine Xg.at_seq ?_
    refine Xg.at_draw [7] [(2, [0, 1, 2, 5, 6], (RdIs (3 : Nat) (Value.slice xx1.snd.fst [(0 : Int), (1 : Int), (2 : Int), (3 : Int)].length xx1.snd.snd) [(0 : Int), (1 : Int), (2 : Int), (3 : Int)].length (recs hdC [(0 : Int), (1 : Int), (2 : Int), (3 : Int)]))), (4, [0, 1, 2, 3, 4, 5, 6], (RdIs (3 : Nat) (Value.slice xx1.snd.fst [(0 : Int), (1 : Int), (2 : Int), (3 : Int)].length xx1.snd.snd) [(0 : Int), (1 : Int), (2 : Int), (3 : Int)].length (recs hdC [(0 : Int), (1 : Int), (2 : Int), (3 : Int)]))), (6, [0, 1, 2, 3, 4, 5, 6], Xg.CellIs (xb1) (((0 : Nat))) ((iv (↑v : Int))))] (by kernel_rfl) ?_
    refine Xg.any_pure ((pv xx1.fst 0)) 0 (by kernel_rfl) rfl (by kernel_rfl) (by kernel_rfl) (by kernel_rfl) (by kernel_rfl) rfl (fun _ => by kernel_rfl) ?_
    refine Xg.any_pure ((Value.slice xx1.snd.fst (4 : Nat) xx1.snd.snd)) 1 (by kernel_rfl) rfl (by kernel_rfl) (by kernel_rfl) (by kernel_rfl) (by kernel_rfl) rfl (fun _ => by kernel_rfl) ?_
    refine Xg.any_reads (.pointer (some (Addr.mk (Xg.blk xx1.snd.fst) (offA xx1.snd.fst + (3 : Nat)) none))) 2 0 (by kernel_rfl) rfl (by kernel_rfl) (by kernel_rfl) (by kernel_rfl) (by kernel_rfl) rfl rfl (by kernel_rfl) (Xg.rd_now 4 (Xg.reads_own (E := ((62 : Nat))) (sz := ((3 : Nat))) (n := ([(0 : Int), (1 : Int), (2 : Int), (3 : Int)].length)) (c := xx1.snd.snd) (a := xx1.snd.fst) (vs := (recs hdC [(0 : Int), (1 : Int), (2 : Int), (3 : Int)]))) (by kernel_rfl)) (Xg.run_ix_rd (elem := 62) (kd := .i64) (e := ((1 : Int))) 3 ((1 : Nat)) (offA xx1.snd.fst + (3 : Nat)) (by kernel_rfl) (by kernel_rfl) (by kernel_rfl) (by kernel_rfl) rfl (by omega) (by rw [Xg.recs_len (wd := 3) (fun _ => rfl)]; omega) (by omega)) ?_
    refine Xg.any_pure ((Value.pointer (some (Addr.mk (blk xx1.snd.fst) (offA xx1.snd.fst + (3 : Nat)) none)))) 3 (by kernel_rfl) rfl (by kernel_rfl) (by kernel_rfl) (by kernel_rfl) (by kernel_rfl) rfl (fun _ => by kernel_rfl) ?_
    refine Xg.any_reads (iv 1) 4 1 (by kernel_rfl) rfl (by kernel_rfl) (by kernel_rfl) (by kernel_rfl) (by kernel_rfl) rfl rfl (by kernel_rfl) (Xg.rd_now 4 (Xg.reads_own (E := ((62 : Nat))) (sz := ((3 : Nat))) (n := ([(0 : Int), (1 : Int), (2 : Int), (3 : Int)].length)) (c := xx1.snd.snd) (a := xx1.snd.fst) (vs := (recs hdC [(0 : Int), (1 : Int), (2 : Int), (3 : Int)]))) (by kernel_rfl)) (Xg.run_load_rd (off0 := (offA xx1.snd.fst + (3 : Nat))) ((3 : Nat)) (by kernel_rfl) (by omega) (Xg.get_recs' (wd := 3) (fun _ => rfl) default ((1 : Nat)) 0 (by omega) (by decide) (by omega) (by kernel_rfl)) (by kernel_rfl)) ?_
    refine Xg.any_pure ((pv xb1 0)) 5 (by kernel_rfl) rfl (by kernel_rfl) (by kernel_rfl) (by kernel_rfl) (by kernel_rfl) rfl (fun _ => by kernel_rfl) ?_
    refine Xg.any_reads (iv (↑v : Int)) 6 2 (by kernel_rfl) rfl (by kernel_rfl) (by kernel_rfl) (by kernel_rfl) (by kernel_rfl) rfl rfl (by kernel_rfl) (Xg.cell_now (b := xb1) (off := ((0 : Nat))) 3 rfl (by kernel_rfl)) (fun _ h => Xg.run_load (by kernel_rfl) (by kernel_rfl) h) ?_
    refine Xg.any_each [7] (by kernel_rfl) rfl ⟨?_, trivial⟩
    refine Xg.comes_act rfl (by kernel_rfl) (by kernel_rfl) (Xg.opx_call1' [0] [PoolS xx1.fst τ, A, row xb2 (5 : TypeId) [uv 1, uv 2, uv 3], row xb1 (42 : Nat) [iv (↑v : Int), iv 1, iv 16], recsO (62 : Nat) (3 : Nat) hdC xx1.snd.fst xx1.snd.snd [(0 : Int), (1 : Int), (2 : Int), (3 : Int)]] (fun _ => by kernel_rfl) (@hg1 (xx1.fst)) (by kernel_rfl) (by kernel_rfl) (by kernel_rfl) ?_)
    refine Xg.acts (Xg.owes_skip (by kernel_rfl) (Xg.owes_skip (by kernel_rfl) (Xg.owes_skip (by kernel_rfl) Xg.owes_nil))) ?_
    refine Xg.any_pure ((iv 97)) 8 (by kernel_rfl) rfl (by kernel_rfl) (by kernel_rfl) (by kernel_rfl) (by kernel_rfl) rfl (fun _ => by kernel_rfl) ?_
    refine Xg.any_nil (by kernel_rfl) ?_
    refine Xg.at_seq ?_
    refine Xg.at_seq ?_
    refine Xg.at_region ?_
    refine Xg.ops_op (by kernel_rfl) (Xg.opx_pure ((iv 97)) rfl (fun _ => by kernel_rfl) ?_)
    refine Xg.ops_op (by kernel_rfl) (Xg.opx_pure ((Value.bool false)) rfl (fun _ => by kernel_rfl) ?_)
    refine Xg.ops_op (by kernel_rfl) (Xg.opx_pure ((Value.bool false)) rfl (fun _ => by kernel_rfl) ?_)
    refine Xg.ops_op (by kernel_rfl) (Xg.opx_pure ((iv 97)) rfl (fun _ => by kernel_rfl) ?_)
    refine Xg.ops_op (by kernel_rfl) (Xg.opx_pure ((Value.bool false)) rfl (fun _ => by kernel_rfl) ?_)
    refine Xg.ops_op (by kernel_rfl) (Xg.opx_pure ((Value.bool false)) rfl (fun _ => by kernel_rfl) ?_)
    refine Xg.ops_op (by kernel_rfl) (Xg.opx_pure ((Value.bool false)) rfl (fun _ => by kernel_rfl) ?_)
    refine Xg.ops_op (by kernel_rfl) (Xg.opx_pure ((iv 97)) rfl (fun _ => by kernel_rfl) ?_)
    refine Xg.ops_op (by kernel_rfl) (Xg.opx_pure ((Value.bool false)) rfl (fun _ => by kernel_rfl) ?_)
    refine Xg.ops_op (by kernel_rfl) (Xg.opx_pure ((Value.bool false)) rfl (fun _ => by kernel_rfl) ?_)
    refine Xg.ops_nil ?_
    refine Xg.at_false (t := false) (by kernel_rfl) rfl ?_
    refine Xg.at_skip ?_
    refine Xg.at_seq ?_
    refine Xg.at_seq ?_
    refine Xg.at_region ?_
    refine Xg.ops_op (by kernel_rfl) (Xg.opx_pure ((iv (-2))) rfl (fun _ => by kernel_rfl) ?_)
    refine Xg.ops_nil ?_
    refine Xg.at_block ?_)
  clear ht hst hl1 hs1 hg1
  (focus
    refine Xg.at_keep [0, 1, 3, 4] (by kernel_rfl) ?_
    refine Xg.at_rounds_inv (α := (Int) × (Nat → Value)) (fun x => ((fun k => -2 ≤ k ∧ k ≤ 6) : (Int) → Prop) x.1) (fun x => ((fun k => (6 - k).toNat) : (Int) → Nat) x.1) (fun x => Xg.headT [iv bu, iv id, Value.slice a m c, tu, tu, tu, Value.bool false, pv xx1.fst 0, Value.slice xx1.snd.fst (4 : Nat) xx1.snd.snd, Value.bool true, pv xb1 0, iv 97, iv 97, iv 97, iv (-2), tu, tu, tu, tu, tu, tu, tu, tu, tu, tu, Value.tuple #[pv xx1.fst 0, Value.slice xx1.snd.fst (4 : Nat) xx1.snd.snd, Value.bool true], Value.tuple #[pv xx1.fst 0, Value.slice xx1.snd.fst (4 : Nat) xx1.snd.snd, Value.bool true], pv xx1.fst 0, Value.slice xx1.snd.fst (4 : Nat) xx1.snd.snd, Value.bool true, Value.bool true, Value.bool false, Value.tuple #[Value.agg #[iv (↑v : Int), iv 1, iv 16], iv 0], pv xx1.fst 0, Value.slice xx1.snd.fst (4 : Nat) xx1.snd.snd, pv (blk xx1.snd.fst) 0, pv (blk xx1.snd.fst) 0, iv 0, iv bu, Value.tuple #[Value.agg #[iv (↑v : Int), iv 1, iv 16], iv 0], Value.agg #[iv (↑v : Int), iv 1, iv 16], iv 0, pv xx1.fst 0, Value.slice xx1.snd.fst (4 : Nat) xx1.snd.snd, Value.pointer (some (Addr.mk (blk xx1.snd.fst) (offA xx1.snd.fst) none)), Value.pointer (some (Addr.mk (blk xx1.snd.fst) (offA xx1.snd.fst) none)), iv 0, pv xb1 0, iv (↑v : Int), Value.slice (some (Addr.mk xb2 (0 : Nat) none)) (3 : Nat) (3 : Nat), iv 0, iv 0, Value.bool false, Value.bool false, iv 0, Value.bool false, Value.bool false, Value.tuple #[Value.slice none (0 : Nat) (0 : Nat), iv 97], pv xx1.fst 0, Value.slice xx1.snd.fst (4 : Nat) xx1.snd.snd, Value.pointer (some (Addr.mk (blk xx1.snd.fst) (offA xx1.snd.fst + (3 : Nat)) none)), Value.pointer (some (Addr.mk (blk xx1.snd.fst) (offA xx1.snd.fst + (3 : Nat)) none)), iv 1, pv xb1 0, iv (↑v : Int), Value.tuple #[Value.slice none (0 : Nat) (0 : Nat), iv 97], Value.slice none (0 : Nat) (0 : Nat), iv 97, pv xx1.fst 0, Value.slice xx1.snd.fst (4 : Nat) xx1.snd.snd, Value.pointer (some (Addr.mk (blk xx1.snd.fst) (offA xx1.snd.fst + (3 : Nat)) none)), Value.pointer (some (Addr.mk (blk xx1.snd.fst) (offA xx1.snd.fst + (3 : Nat)) none)), iv 1, pv xb1 0, iv (↑v : Int), Value.slice a m c, iv 97, pv xx1.fst 0, Value.slice xx1.snd.fst (4 : Nat) xx1.snd.snd, Value.pointer (some (Addr.mk (blk xx1.snd.fst) (offA xx1.snd.fst + (3 : Nat)) none)), Value.pointer (some (Addr.mk (blk xx1.snd.fst) (offA xx1.snd.fst + (3 : Nat)) none)), iv 1, pv xb1 0, iv (↑v : Int), iv 97, iv 97, Value.bool false, Value.bool false, iv 97, Value.bool false, Value.bool false, Value.bool false, iv 97, Value.bool false, Value.bool false, tu, tu, tu, tu, tu, tu, tu, tu, tu, tu, tu, tu, tu, tu, tu, tu, tu, tu, tu, tu, tu, tu, tu, tu, tu, tu, tu, tu, tu, tu, tu, tu, tu, tu, tu, tu, tu, tu, tu, tu, tu, tu, tu, tu, tu, tu, tu, tu, tu, tu, tu, tu, tu, tu, tu, tu, tu, tu, tu, tu, tu, tu, tu, tu, tu, tu, tu, tu, tu, tu, tu, tu, tu, tu, tu, tu, tu, tu, tu, tu, tu, tu, tu, tu, tu, tu, tu, tu, tu, tu, tu, tu, tu, tu, tu, tu, tu, tu, tu, tu, tu, tu, tu, tu, tu, tu, tu, tu, tu, tu, tu, tu, tu, tu, tu, tu, tu, tu, tu, tu, tu, tu, tu, tu, tu, tu, tu, tu, tu, tu, tu, tu, tu, tu, tu, tu, tu, tu, tu, tu, tu, tu, tu, tu, tu, tu, tu, tu, tu, tu, tu, tu, tu, tu, tu, tu, tu, tu, tu, tu] [6, 11, 12, 13, 95, 96, 97, 98, 99, 100, 101, 102, 103, 104, 105, 106, 107, 108, 109, 110, 111, 112, 113, 114, 115, 116, 117, 118, 119, 120, 121, 122, 123, 124, 125, 126, 127, 128, 129, 130, 131, 132, 133, 134, 135, 136, 137] (((fun k => [(14, .int .i64 k)]) : (Int) → List (Nat × Go.Value)) x.1) x.2) (fun x => ((fun k => [PoolS xx1.1 τ, A, row xb1 42 [.int .i64 (v : Nat), .int .i64 1, .int .i64 16], recsO 62 3 hdC xx1.2.1 xx1.2.2 [0, 1, 2, 3]]) : (Int) → List Go.Sl.HP) x.1) (((-2)), fun j9 => ([iv bu, iv id, Value.slice a m c, tu, tu, tu, Value.bool false, pv xx1.fst 0, Value.slice xx1.snd.fst (4 : Nat) xx1.snd.snd, Value.bool true, pv xb1 0, iv 97, iv 97, iv 97, iv (-2), tu, tu, tu, tu, tu, tu, tu, tu, tu, tu, Value.tuple #[pv xx1.fst 0, Value.slice xx1.snd.fst (4 : Nat) xx1.snd.snd, Value.bool true], Value.tuple #[pv xx1.fst 0, Value.slice xx1.snd.fst (4 : Nat) xx1.snd.snd, Value.bool true], pv xx1.fst 0, Value.slice xx1.snd.fst (4 : Nat) xx1.snd.snd, Value.bool true, Value.bool true, Value.bool false, Value.tuple #[Value.agg #[iv (↑v : Int), iv 1, iv 16], iv 0], pv xx1.fst 0, Value.slice xx1.snd.fst (4 : Nat) xx1.snd.snd, pv (blk xx1.snd.fst) 0, pv (blk xx1.snd.fst) 0, iv 0, iv bu, Value.tuple #[Value.agg #[iv (↑v : Int), iv 1, iv 16], iv 0], Value.agg #[iv (↑v : Int), iv 1, iv 16], iv 0, pv xx1.fst 0, Value.slice xx1.snd.fst (4 : Nat) xx1.snd.snd, Value.pointer (some (Addr.mk (blk xx1.snd.fst) (offA xx1.snd.fst) none)), Value.pointer (some (Addr.mk (blk xx1.snd.fst) (offA xx1.snd.fst) none)), iv 0, pv xb1 0, iv (↑v : Int), Value.slice (some (Addr.mk xb2 (0 : Nat) none)) (3 : Nat) (3 : Nat), iv 0, iv 0, Value.bool false, Value.bool false, iv 0, Value.bool false, Value.bool false, Value.tuple #[Value.slice none (0 : Nat) (0 : Nat), iv 97], pv xx1.fst 0, Value.slice xx1.snd.fst (4 : Nat) xx1.snd.snd, Value.pointer (some (Addr.mk (blk xx1.snd.fst) (offA xx1.snd.fst + (3 : Nat)) none)), Value.pointer (some (Addr.mk (blk xx1.snd.fst) (offA xx1.snd.fst + (3 : Nat)) none)), iv 1, pv xb1 0, iv (↑v : Int), Value.tuple #[Value.slice none (0 : Nat) (0 : Nat), iv 97], Value.slice none (0 : Nat) (0 : Nat), iv 97, pv xx1.fst 0, Value.slice xx1.snd.fst (4 : Nat) xx1.snd.snd, Value.pointer (some (Addr.mk (blk xx1.snd.fst) (offA xx1.snd.fst + (3 : Nat)) none)), Value.pointer (some (Addr.mk (blk xx1.snd.fst) (offA xx1.snd.fst + (3 : Nat)) none)), iv 1, pv xb1 0, iv (↑v : Int), Value.slice a m c, iv 97, pv xx1.fst 0, Value.slice xx1.snd.fst (4 : Nat) xx1.snd.snd, Value.pointer (some (Addr.mk (blk xx1.snd.fst) (offA xx1.snd.fst + (3 : Nat)) none)), Value.pointer (some (Addr.mk (blk xx1.snd.fst) (offA xx1.snd.fst + (3 : Nat)) none)), iv 1, pv xb1 0, iv (↑v : Int), iv 97, iv 97, Value.bool false, Value.bool false, iv 97, Value.bool false, Value.bool false, Value.bool false, iv 97, Value.bool false, Value.bool false, tu, tu, tu, tu, tu, tu, tu, tu, tu, tu, tu, tu, tu, tu, tu, tu, tu, tu, tu, tu, tu, tu, tu, tu, tu, tu, tu, tu, tu, tu, tu, tu, tu, tu, tu, tu, tu, tu, tu, tu, tu, tu, tu, tu, tu, tu, tu, tu, tu, tu, tu, tu, tu, tu, tu, tu, tu, tu, tu, tu, tu, tu, tu, tu, tu, tu, tu, tu, tu, tu, tu, tu, tu, tu, tu, tu, tu, tu, tu, tu, tu, tu, tu, tu, tu, tu, tu, tu, tu, tu, tu, tu, tu, tu, tu, tu, tu, tu, tu, tu, tu, tu, tu, tu, tu, tu, tu, tu, tu, tu, tu, tu, tu, tu, tu, tu, tu, tu, tu, tu, tu, tu, tu, tu, tu, tu, tu, tu, tu, tu, tu, tu, tu, tu, tu, tu, tu, tu, tu, tu, tu, tu, tu, tu, tu, tu, tu, tu, tu, tu, tu, tu, tu, tu, tu, tu, tu, tu, tu, tu] : List Value).getD j9 undef) (by kernel_rfl) (by kernel_rfl) ?_ ?_)
  · show (-2 : Int) ≤ -2 ∧ (-2 : Int) ≤ 6; decide
  rintro ⟨k, J⟩ hk ih
  dsimp only at hk
  (focus
    refine Xg.At.same (T' := [iv bu, iv id, Value.slice a m c, tu, tu, tu, J 6, pv xx1.fst 0, Value.slice xx1.snd.fst (4 : Nat) xx1.snd.snd, Value.bool true, pv xb1 0, J 11, J 12, J 13, iv k, tu, tu, tu, tu, tu, tu, tu, tu, tu, tu, Value.tuple #[pv xx1.fst 0, Value.slice xx1.snd.fst (4 : Nat) xx1.snd.snd, Value.bool true], Value.tuple #[pv xx1.fst 0, Value.slice xx1.snd.fst (4 : Nat) xx1.snd.snd, Value.bool true], pv xx1.fst 0, Value.slice xx1.snd.fst (4 : Nat) xx1.snd.snd, Value.bool true, Value.bool true, Value.bool false, Value.tuple #[Value.agg #[iv (↑v : Int), iv 1, iv 16], iv 0], pv xx1.fst 0, Value.slice xx1.snd.fst (4 : Nat) xx1.snd.snd, pv (blk xx1.snd.fst) 0, pv (blk xx1.snd.fst) 0, iv 0, iv bu, Value.tuple #[Value.agg #[iv (↑v : Int), iv 1, iv 16], iv 0], Value.agg #[iv (↑v : Int), iv 1, iv 16], iv 0, pv xx1.fst 0, Value.slice xx1.snd.fst (4 : Nat) xx1.snd.snd, Value.pointer (some (Addr.mk (blk xx1.snd.fst) (offA xx1.snd.fst) none)), Value.pointer (some (Addr.mk (blk xx1.snd.fst) (offA xx1.snd.fst) none)), iv 0, pv xb1 0, iv (↑v : Int), Value.slice (some (Addr.mk xb2 (0 : Nat) none)) (3 : Nat) (3 : Nat), iv 0, iv 0, Value.bool false, Value.bool false, iv 0, Value.bool false, Value.bool false, Value.tuple #[Value.slice none (0 : Nat) (0 : Nat), iv 97], pv xx1.fst 0, Value.slice xx1.snd.fst (4 : Nat) xx1.snd.snd, Value.pointer (some (Addr.mk (blk xx1.snd.fst) (offA xx1.snd.fst + (3 : Nat)) none)), Value.pointer (some (Addr.mk (blk xx1.snd.fst) (offA xx1.snd.fst + (3 : Nat)) none)), iv 1, pv xb1 0, iv (↑v : Int), Value.tuple #[Value.slice none (0 : Nat) (0 : Nat), iv 97], Value.slice none (0 : Nat) (0 : Nat), iv 97, pv xx1.fst 0, Value.slice xx1.snd.fst (4 : Nat) xx1.snd.snd, Value.pointer (some (Addr.mk (blk xx1.snd.fst) (offA xx1.snd.fst + (3 : Nat)) none)), Value.pointer (some (Addr.mk (blk xx1.snd.fst) (offA xx1.snd.fst + (3 : Nat)) none)), iv 1, pv xb1 0, iv (↑v : Int), Value.slice a m c, iv 97, pv xx1.fst 0, Value.slice xx1.snd.fst (4 : Nat) xx1.snd.snd, Value.pointer (some (Addr.mk (blk xx1.snd.fst) (offA xx1.snd.fst + (3 : Nat)) none)), Value.pointer (some (Addr.mk (blk xx1.snd.fst) (offA xx1.snd.fst + (3 : Nat)) none)), iv 1, pv xb1 0, iv (↑v : Int), iv 97, iv 97, Value.bool false, Value.bool false, iv 97, Value.bool false, Value.bool false, Value.bool false, iv 97, Value.bool false, Value.bool false, J 95, J 96, J 97, J 98, J 99, J 100, J 101, J 102, J 103, J 104, J 105, J 106, J 107, J 108, J 109, J 110, J 111, J 112, J 113, J 114, J 115, J 116, J 117, J 118, J 119, J 120, J 121, J 122, J 123, J 124, J 125, J 126, J 127, J 128, J 129, J 130, J 131, J 132, J 133, J 134, J 135, J 136, J 137, tu, tu, tu, tu, tu, tu, tu, tu, tu, tu, tu, tu, tu, tu, tu, tu, tu, tu, tu, tu, tu, tu, tu, tu, tu, tu, tu, tu, tu, tu, tu, tu, tu, tu, tu, tu, tu, tu, tu, tu, tu, tu, tu, tu, tu, tu, tu, tu, tu, tu, tu, tu, tu, tu, tu, tu, tu, tu, tu, tu, tu, tu, tu, tu, tu, tu, tu, tu, tu, tu, tu, tu, tu, tu, tu, tu, tu, tu, tu, tu, tu, tu, tu, tu, tu, tu, tu, tu, tu, tu, tu, tu, tu, tu, tu, tu, tu, tu, tu, tu, tu, tu, tu, tu, tu, tu, tu, tu, tu, tu, tu, tu, tu, tu, tu, tu, tu]) (L' := [PoolS xx1.fst τ, A, row xb1 (42 : TypeId) [iv (↑v : Int), iv 1, iv 16], recsO (62 : Nat) (3 : Nat) hdC xx1.snd.fst xx1.snd.snd [(0 : Int), (1 : Int), (2 : Int), (3 : Int)]]) (by kernel_rfl) rfl ?_)
  by_cases hk6 : k < 6
  · by_cases hkv : k = v
    · (focus
        refine Xg.at_seq ?_
        refine Xg.at_seq ?_
        refine Xg.at_region ?_
        refine Xg.ops_op (by kernel_rfl) (Xg.opx_pure ((iv k)) rfl (fun _ => by kernel_rfl) ?_)
        refine Xg.ops_op (by kernel_rfl) (Xg.opx_pure (.bool (decide ((k : Int) < ((6 : Int))))) rfl (fun _ => by kernel_rfl) ?_)
        refine Xg.ops_nil ?_
        refine Xg.at_true (t := decide ((k < (6 : Int)))) (by kernel_rfl) (decide_eq_true (by omega)) ?_
        refine Xg.at_skip ?_
        refine Xg.at_seq ?_
        refine Xg.at_block ?_
        refine Xg.at_seq ?_
        refine Xg.at_seq ?_
        refine Xg.at_region ?_
        refine Xg.ops_op (by kernel_rfl) (Xg.opx_pure ((iv k)) rfl (fun _ => by kernel_rfl) ?_)
        refine Xg.ops_op (by kernel_rfl) (Xg.opx_pure ((pv xb1 0)) rfl (fun _ => by kernel_rfl) ?_)
        refine Xg.ops_op (by kernel_rfl) (Xg.opx_load (b := xb1) (off := ((0 : Nat))) 2 (iv (↑v : Int)) rfl (by kernel_rfl) (by kernel_rfl) (by kernel_rfl) ?_)
        refine Xg.ops_op (by kernel_rfl) (Xg.opx_pure (.bool (decide ((k : Int) = ((↑v : Int))))) rfl (fun _ => by kernel_rfl) ?_)
        refine Xg.ops_nil ?_
        refine Xg.at_true (t := decide ((k = (↑v : Int)))) (by kernel_rfl) (decide_eq_true (by omega)) ?_
        refine Xg.at_exit rfl ?_
        refine Xg.at_region ?_
        refine Xg.ops_op (by kernel_rfl) (Xg.opx_pure ((iv k)) rfl (fun _ => by kernel_rfl) ?_)
        refine Xg.ops_op (by kernel_rfl) (Xg.opx_int .i64 (IntKind.wrap .i64 ((k + (1 : Int)))) rfl (fun _ => by kernel_rfl) (Xg.wrap_i64_in (by omega)) ?_)
        refine Xg.ops_op (by kernel_rfl) (Xg.opx_pure ((iv (k + (1 : Int)))) rfl (fun _ => by kernel_rfl) ?_)
        refine Xg.ops_nil ?_
        refine Xg.at_inLoop ?_)
      (focus
        refine Xg.at_keep [0, 1, 2, 3] (by kernel_rfl) ?_
        refine Xs.same ?_ (fun J9 => ih (((k + 1)), J9) ?_ ?_) (by kernel_rfl))
      · rfl
      · dsimp only; omega
      · dsimp only; omega
    · have hfk : fidx (fun x => k == x) [(v : Int)] < 0 := by simp [fidx, hkv]
      have hl1 : ∀ p, _ := fun p => load_not p τ (by omega) 0 (by omega) _ t3 k hfk 0 1
      have hs1 : ∀ p, _ := fun p => store_not p τ (by omega) 0 (by omega) _ t3 k hfk A 0 a m c hm2
      have hg1 : ∀ p, _ := fun p => give_not p τ (by omega) 0 (by omega) _ t3 k hfk
      (focus
        refine Xg.at_seq ?_
        refine Xg.at_seq ?_
        refine Xg.at_region ?_
        refine Xg.ops_op (by kernel_rfl) (Xg.opx_pure ((iv k)) rfl (fun _ => by kernel_rfl) ?_)
        refine Xg.ops_op (by kernel_rfl) (Xg.opx_pure (.bool (decide ((k : Int) < ((6 : Int))))) rfl (fun _ => by kernel_rfl) ?_)
        refine Xg.ops_nil ?_
        refine Xg.at_true (t := decide ((k < (6 : Int)))) (by kernel_rfl) (decide_eq_true (by omega)) ?_
        refine Xg.at_skip ?_
        refine Xg.at_seq ?_
        refine Xg.at_block ?_
        refine Xg.at_seq ?_
        refine Xg.at_seq ?_
        refine Xg.at_region ?_
        refine Xg.ops_op (by kernel_rfl) (Xg.opx_pure ((iv k)) rfl (fun _ => by kernel_rfl) ?_)
        refine Xg.ops_op (by kernel_rfl) (Xg.opx_pure ((pv xb1 0)) rfl (fun _ => by kernel_rfl) ?_)
        refine Xg.ops_op (by kernel_rfl) (Xg.opx_load (b := xb1) (off := ((0 : Nat))) 2 (iv (↑v : Int)) rfl (by kernel_rfl) (by kernel_rfl) (by kernel_rfl) ?_)
        refine Xg.ops_op (by kernel_rfl) (Xg.opx_pure (.bool (decide ((k : Int) = ((↑v : Int))))) rfl (fun _ => by kernel_rfl) ?_)
        refine Xg.ops_nil ?_
        refine Xg.at_false (t := decide ((k = (↑v : Int)))) (by kernel_rfl) (decide_eq_false (by omega)) ?_
        refine Xg.at_skip ?_
        refine Xg.at_seq ?_
        refine Xg.at_region ?_
        refine Xg.ops_op (by kernel_rfl) (Xg.opx_pure ((pv xx1.fst 0)) rfl (fun _ => by kernel_rfl) ?_)
        refine Xg.ops_op (by kernel_rfl) (Xg.opx_pure ((Value.slice xx1.snd.fst (4 : Nat) xx1.snd.snd)) rfl (fun _ => by kernel_rfl) ?_)
        refine Xg.ops_op (by kernel_rfl) (Xg.opx_ix_own (elem := 62) (kd := .i64) (e := ((0 : Int))) 3 3 ((0 : Nat)) ((0 : Nat)) rfl (by kernel_rfl) (by kernel_rfl) (by kernel_rfl) (by kernel_rfl) rfl (by omega) (by omega) ?_)
        refine Xg.ops_op (by kernel_rfl) (Xg.opx_pure ((pv (blk xx1.snd.fst) 0)) rfl (fun _ => by kernel_rfl) ?_)
        refine Xg.ops_op (by kernel_rfl) (Xg.opx_load_own (a := xx1.snd.fst) (off := ((0 : Nat))) 3 (iv 0) rfl (by kernel_rfl) (Xg.get_recs' (wd := 3) (fun _ => rfl) default ((0 : Nat)) 0 (by omega) (by decide) (by omega) (by kernel_rfl)) (by kernel_rfl) ?_)
        refine Xg.ops_op (by kernel_rfl) (Xg.opx_pure ((iv k)) rfl (fun _ => by kernel_rfl) ?_)
        refine Xg.ops_op (by kernel_rfl) (Xg.opx_call1' [0] [PoolS xx1.fst τ, A, row xb1 (42 : TypeId) [iv (↑v : Int), iv 1, iv 16], recsO (62 : Nat) (3 : Nat) hdC xx1.snd.fst xx1.snd.snd [(0 : Int), (1 : Int), (2 : Int), (3 : Int)]] (fun _ => by kernel_rfl) (@hl1 (xx1.fst)) (by kernel_rfl) (by kernel_rfl) (by kernel_rfl) ?_)
        refine Xg.ops_op (by kernel_rfl) (Xg.opx_pure ((Value.tuple #[Value.slice none (0 : Nat) (0 : Nat), iv 97])) rfl (fun _ => by kernel_rfl) ?_)
        refine Xg.ops_op (by kernel_rfl) (Xg.opx_pure ((Value.slice none (0 : Nat) (0 : Nat))) rfl (fun _ => by kernel_rfl) ?_)
        refine Xg.ops_op (by kernel_rfl) (Xg.opx_pure ((iv 97)) rfl (fun _ => by kernel_rfl) ?_)
        refine Xg.ops_op (by kernel_rfl) (Xg.opx_pure ((iv 97)) rfl (fun _ => by kernel_rfl) ?_)
        refine Xg.ops_nil ?_
        refine Xg.at_seq ?_
        refine Xg.at_region ?_
        refine Xg.ops_op (by kernel_rfl) (Xg.opx_pure ((pv xx1.fst 0)) rfl (fun _ => by kernel_rfl) ?_)
        refine Xg.ops_op (by kernel_rfl) (Xg.opx_pure ((Value.slice xx1.snd.fst (4 : Nat) xx1.snd.snd)) rfl (fun _ => by kernel_rfl) ?_)
        refine Xg.ops_op (by kernel_rfl) (Xg.opx_ix_own (elem := 62) (kd := .i64) (e := ((0 : Int))) 3 3 ((0 : Nat)) ((0 : Nat)) rfl (by kernel_rfl) (by kernel_rfl) (by kernel_rfl) (by kernel_rfl) rfl (by omega) (by omega) ?_)
        refine Xg.ops_op (by kernel_rfl) (Xg.opx_pure ((pv (blk xx1.snd.fst) 0)) rfl (fun _ => by kernel_rfl) ?_)
        refine Xg.ops_op (by kernel_rfl) (Xg.opx_load_own (a := xx1.snd.fst) (off := ((0 : Nat))) 3 (iv 0) rfl (by kernel_rfl) (Xg.get_recs' (wd := 3) (fun _ => rfl) default ((0 : Nat)) 0 (by omega) (by decide) (by omega) (by kernel_rfl)) (by kernel_rfl) ?_)
        refine Xg.ops_op (by kernel_rfl) (Xg.opx_pure ((iv k)) rfl (fun _ => by kernel_rfl) ?_)
        refine Xg.ops_op (by kernel_rfl) (Xg.opx_pure ((Value.slice a m c)) rfl (fun _ => by kernel_rfl) ?_)
        refine Xg.ops_op (by kernel_rfl) (Xg.opx_call1' [0, 1] [PoolS xx1.fst τ, A, row xb1 (42 : TypeId) [iv (↑v : Int), iv 1, iv 16], recsO (62 : Nat) (3 : Nat) hdC xx1.snd.fst xx1.snd.snd [(0 : Int), (1 : Int), (2 : Int), (3 : Int)]] (fun _ => by kernel_rfl) (@hs1 (xx1.fst)) (by kernel_rfl) (by kernel_rfl) (by kernel_rfl) ?_)
        refine Xg.ops_op (by kernel_rfl) (Xg.opx_pure ((iv 97)) rfl (fun _ => by kernel_rfl) ?_)
        refine Xg.ops_nil ?_
        refine Xg.at_seq ?_
        refine Xg.at_region ?_
        refine Xg.ops_op (by kernel_rfl) (Xg.opx_pure ((pv xx1.fst 0)) rfl (fun _ => by kernel_rfl) ?_)
        refine Xg.ops_op (by kernel_rfl) (Xg.opx_pure ((Value.slice xx1.snd.fst (4 : Nat) xx1.snd.snd)) rfl (fun _ => by kernel_rfl) ?_)
        refine Xg.ops_op (by kernel_rfl) (Xg.opx_ix_own (elem := 62) (kd := .i64) (e := ((0 : Int))) 3 3 ((0 : Nat)) ((0 : Nat)) rfl (by kernel_rfl) (by kernel_rfl) (by kernel_rfl) (by kernel_rfl) rfl (by omega) (by omega) ?_)
        refine Xg.ops_op (by kernel_rfl) (Xg.opx_pure ((pv (blk xx1.snd.fst) 0)) rfl (fun _ => by kernel_rfl) ?_)
        refine Xg.ops_op (by kernel_rfl) (Xg.opx_load_own (a := xx1.snd.fst) (off := ((0 : Nat))) 3 (iv 0) rfl (by kernel_rfl) (Xg.get_recs' (wd := 3) (fun _ => rfl) default ((0 : Nat)) 0 (by omega) (by decide) (by omega) (by kernel_rfl)) (by kernel_rfl) ?_)
        refine Xg.ops_op (by kernel_rfl) (Xg.opx_pure ((iv k)) rfl (fun _ => by kernel_rfl) ?_)
        refine Xg.ops_op (by kernel_rfl) (Xg.opx_call1' [0] [PoolS xx1.fst τ, A, row xb1 (42 : TypeId) [iv (↑v : Int), iv 1, iv 16], recsO (62 : Nat) (3 : Nat) hdC xx1.snd.fst xx1.snd.snd [(0 : Int), (1 : Int), (2 : Int), (3 : Int)]] (fun _ => by kernel_rfl) (@hg1 (xx1.fst)) (by kernel_rfl) (by kernel_rfl) (by kernel_rfl) ?_)
        refine Xg.ops_op (by kernel_rfl) (Xg.opx_pure ((iv 97)) rfl (fun _ => by kernel_rfl) ?_)
        refine Xg.ops_nil ?_
        refine Xg.at_seq ?_
        refine Xg.at_region ?_
        refine Xg.ops_op (by kernel_rfl) (Xg.opx_pure ((iv 97)) rfl (fun _ => by kernel_rfl) ?_)
        refine Xg.ops_op (by kernel_rfl) (Xg.opx_pure ((Value.bool false)) rfl (fun _ => by kernel_rfl) ?_)
        refine Xg.ops_op (by kernel_rfl) (Xg.opx_pure ((Value.bool false)) rfl (fun _ => by kernel_rfl) ?_)
        refine Xg.ops_op (by kernel_rfl) (Xg.opx_pure ((iv 97)) rfl (fun _ => by kernel_rfl) ?_)
        refine Xg.ops_op (by kernel_rfl) (Xg.opx_pure ((Value.bool false)) rfl (fun _ => by kernel_rfl) ?_)
        refine Xg.ops_op (by kernel_rfl) (Xg.opx_pure ((Value.bool false)) rfl (fun _ => by kernel_rfl) ?_)
        refine Xg.ops_op (by kernel_rfl) (Xg.opx_pure ((Value.bool false)) rfl (fun _ => by kernel_rfl) ?_)
        refine Xg.ops_op (by kernel_rfl) (Xg.opx_pure ((iv 97)) rfl (fun _ => by kernel_rfl) ?_)
        refine Xg.ops_op (by kernel_rfl) (Xg.opx_pure ((Value.bool false)) rfl (fun _ => by kernel_rfl) ?_)
        refine Xg.ops_op (by kernel_rfl) (Xg.opx_pure ((Value.bool false)) rfl (fun _ => by kernel_rfl) ?_)
        refine Xg.ops_nil ?_
        refine Xg.at_false (t := false) (by kernel_rfl) rfl ?_
        refine Xg.at_skip ?_
        refine Xg.at_inBlock ?_
        refine Xg.at_region ?_
        refine Xg.ops_op (by kernel_rfl) (Xg.opx_pure ((iv k)) rfl (fun _ => by kernel_rfl) ?_)
        refine Xg.ops_op (by kernel_rfl) (Xg.opx_int .i64 (IntKind.wrap .i64 ((k + (1 : Int)))) rfl (fun _ => by kernel_rfl) (Xg.wrap_i64_in (by omega)) ?_)
        refine Xg.ops_op (by kernel_rfl) (Xg.opx_pure ((iv (k + (1 : Int)))) rfl (fun _ => by kernel_rfl) ?_)
        refine Xg.ops_nil ?_
        refine Xg.at_inLoop ?_)
      (focus
        refine Xg.at_keep [0, 1, 2, 3] (by kernel_rfl) ?_
        refine Xs.same ?_ (fun J9 => ih (((k + 1)), J9) ?_ ?_) (by kernel_rfl))
      · rfl
      · dsimp only; omega
      · dsimp only; omega
  · clear ih
    have hpk := pick_d id 1099511627776 hid (by decide)
    (focus
      refine Xg.at_seq ?_
      refine Xg.at_seq ?_
      refine Xg.at_region ?_
      refine Xg.ops_op (by kernel_rfl) (Xg.opx_pure ((iv k)) rfl (fun _ => by kernel_rfl) ?_)
      refine Xg.ops_op (by kernel_rfl) (Xg.opx_pure (.bool (decide ((k : Int) < ((6 : Int))))) rfl (fun _ => by kernel_rfl) ?_)
      refine Xg.ops_nil ?_
      refine Xg.at_false (t := decide ((k < (6 : Int)))) (by kernel_rfl) (decide_eq_false (by omega)) ?_
      refine Xg.at_exit rfl ?_
      refine Xg.at_seq ?_
      refine Xg.at_region ?_
      refine Xg.ops_op (by kernel_rfl) (Xg.opx_pure ((iv id)) rfl (fun _ => by kernel_rfl) ?_)
      refine Xg.ops_op (by kernel_rfl) (Xg.opx_callE' [] (fun xx2 => [PoolS xx1.fst τ, A, row xb1 (42 : TypeId) [iv (↑v : Int), iv 1, iv 16], recsO (62 : Nat) (3 : Nat) hdC xx1.snd.fst xx1.snd.snd [(0 : Int), (1 : Int), (2 : Int), (3 : Int)]]) (fun _ => by kernel_rfl) (@hpk ) (by kernel_rfl) (by kernel_rfl) (by kernel_rfl) fun xx2 xh2 => ?_)
      try dsimp only at xh2
      obtain ⟨xh2_0, xh2_1⟩ := xh2
      refine Xg.ops_op (by kernel_rfl) (Xg.opx_int .i64 (IntKind.wrap .i64 (((4 : Int) + (↑xx2 : Int)))) rfl (fun _ => by kernel_rfl) (Xg.wrap_i64_in (by omega)) ?_)
      refine Xg.ops_op (by kernel_rfl) (Xg.opx_pure ((iv ((4 : Int) + (↑xx2 : Int)))) rfl (fun _ => by kernel_rfl) ?_)
      refine Xg.ops_nil ?_
      refine Xg.at_seq ?_
      refine Xg.at_seq ?_
      refine Xg.at_region ?_
      refine Xg.ops_op (by kernel_rfl) (Xg.opx_pure ((iv id)) rfl (fun _ => by kernel_rfl) ?_)
      refine Xg.ops_op (by kernel_rfl) (Xg.opx_pure (.bool (decide ((id : Int) < ((0 : Int))))) rfl (fun _ => by kernel_rfl) ?_)
      refine Xg.ops_nil ?_)
    (focus
      refine Xg.at_cut (α := (Int) × (Nat → Value)) (fun x9 => ((fun y => isNo τ y) : (Int) → Prop) x9.1) (fun x9 => Xg.headT [iv bu, iv id, Value.slice a m c, tu, tu, tu, J 6, pv xx1.fst 0, Value.slice xx1.snd.fst (4 : Nat) xx1.snd.snd, Value.bool true, pv xb1 0, J 11, J 12, J 13, iv k, iv ((4 : Int) + (↑xx2 : Int)), tu, tu, tu, tu, tu, tu, tu, tu, tu, Value.tuple #[pv xx1.fst 0, Value.slice xx1.snd.fst (4 : Nat) xx1.snd.snd, Value.bool true], Value.tuple #[pv xx1.fst 0, Value.slice xx1.snd.fst (4 : Nat) xx1.snd.snd, Value.bool true], pv xx1.fst 0, Value.slice xx1.snd.fst (4 : Nat) xx1.snd.snd, Value.bool true, Value.bool true, Value.bool false, Value.tuple #[Value.agg #[iv (↑v : Int), iv 1, iv 16], iv 0], pv xx1.fst 0, Value.slice xx1.snd.fst (4 : Nat) xx1.snd.snd, pv (blk xx1.snd.fst) 0, pv (blk xx1.snd.fst) 0, iv 0, iv bu, Value.tuple #[Value.agg #[iv (↑v : Int), iv 1, iv 16], iv 0], Value.agg #[iv (↑v : Int), iv 1, iv 16], iv 0, pv xx1.fst 0, Value.slice xx1.snd.fst (4 : Nat) xx1.snd.snd, Value.pointer (some (Addr.mk (blk xx1.snd.fst) (offA xx1.snd.fst) none)), Value.pointer (some (Addr.mk (blk xx1.snd.fst) (offA xx1.snd.fst) none)), iv 0, pv xb1 0, iv (↑v : Int), Value.slice (some (Addr.mk xb2 (0 : Nat) none)) (3 : Nat) (3 : Nat), iv 0, iv 0, Value.bool false, Value.bool false, iv 0, Value.bool false, Value.bool false, Value.tuple #[Value.slice none (0 : Nat) (0 : Nat), iv 97], pv xx1.fst 0, Value.slice xx1.snd.fst (4 : Nat) xx1.snd.snd, Value.pointer (some (Addr.mk (blk xx1.snd.fst) (offA xx1.snd.fst + (3 : Nat)) none)), Value.pointer (some (Addr.mk (blk xx1.snd.fst) (offA xx1.snd.fst + (3 : Nat)) none)), iv 1, pv xb1 0, iv (↑v : Int), Value.tuple #[Value.slice none (0 : Nat) (0 : Nat), iv 97], Value.slice none (0 : Nat) (0 : Nat), iv 97, pv xx1.fst 0, Value.slice xx1.snd.fst (4 : Nat) xx1.snd.snd, Value.pointer (some (Addr.mk (blk xx1.snd.fst) (offA xx1.snd.fst + (3 : Nat)) none)), Value.pointer (some (Addr.mk (blk xx1.snd.fst) (offA xx1.snd.fst + (3 : Nat)) none)), iv 1, pv xb1 0, iv (↑v : Int), Value.slice a m c, iv 97, pv xx1.fst 0, Value.slice xx1.snd.fst (4 : Nat) xx1.snd.snd, Value.pointer (some (Addr.mk (blk xx1.snd.fst) (offA xx1.snd.fst + (3 : Nat)) none)), Value.pointer (some (Addr.mk (blk xx1.snd.fst) (offA xx1.snd.fst + (3 : Nat)) none)), iv 1, pv xb1 0, iv (↑v : Int), iv 97, iv 97, Value.bool false, Value.bool false, iv 97, Value.bool false, Value.bool false, Value.bool false, iv 97, Value.bool false, Value.bool false, iv k, Value.bool (decide (k < (6 : Int))), J 97, J 98, J 99, J 100, J 101, J 102, J 103, J 104, J 105, J 106, J 107, J 108, J 109, J 110, J 111, J 112, J 113, J 114, J 115, J 116, J 117, J 118, J 119, J 120, J 121, J 122, J 123, J 124, J 125, J 126, J 127, J 128, J 129, J 130, J 131, J 132, J 133, J 134, J 135, J 136, J 137, iv id, iv (↑xx2 : Int), iv ((4 : Int) + (↑xx2 : Int)), iv id, Value.bool (decide (id < (0 : Int))), tu, tu, tu, tu, tu, tu, tu, tu, tu, tu, tu, tu, tu, tu, tu, tu, tu, tu, tu, tu, tu, tu, tu, tu, tu, tu, tu, tu, tu, tu, tu, tu, tu, tu, tu, tu, tu, tu, tu, tu, tu, tu, tu, tu, tu, tu, tu, tu, tu, tu, tu, tu, tu, tu, tu, tu, tu, tu, tu, tu, tu, tu, tu, tu, tu, tu, tu, tu, tu, tu, tu, tu, tu, tu, tu, tu, tu, tu, tu, tu, tu, tu, tu, tu, tu, tu, tu, tu, tu, tu, tu, tu, tu, tu, tu, tu, tu, tu, tu, tu, tu, tu, tu, tu, tu, tu, tu, tu, tu, tu, tu, tu] [143] (((fun y => [(15, .int .i64 y)]) : (Int) → List (Nat × Go.Value)) x9.1) x9.2) (fun x9 => ((fun y => [PoolS xx1.1 τ, A, row xb1 42 [.int .i64 (v : Nat), .int .i64 1, .int .i64 16], recsO 62 3 hdC xx1.2.1 xx1.2.2 [0, 1, 2, 3]]) : (Int) → List Go.Sl.HP) x9.1) (fun kk hk => ?_) ?_)
    · (focus
        refine Xg.at_dec (p := (id < (0 : Int))) (by kernel_rfl) (fun xh3 => ?_) (fun xh3 => ?_)
        refine Xg.at_region ?_
        refine Xg.ops_op (by kernel_rfl) (Xg.opx_pure ((iv id)) rfl (fun _ => by kernel_rfl) ?_)
        refine Xg.ops_op (by kernel_rfl) (Xg.opx_pure ((iv id)) rfl (fun _ => by kernel_rfl) ?_)
        refine Xg.ops_nil ?_
        rotate_left
        refine Xg.at_skip ?_)
      · (focus
          refine Xg.at_keep [0, 1, 2, 3] (by kernel_rfl) ?_
          refine Xg.At.same (by kernel_rfl) ?_ (hk ((((4 : Int) + (xx2 : Int))), fun j9 => ([iv bu, iv id, Value.slice a m c, tu, tu, tu, J 6, pv xx1.fst 0, Value.slice xx1.snd.fst (4 : Nat) xx1.snd.snd, Value.bool true, pv xb1 0, J 11, J 12, J 13, iv k, iv ((4 : Int) + (↑xx2 : Int)), tu, tu, tu, tu, tu, tu, tu, tu, tu, Value.tuple #[pv xx1.fst 0, Value.slice xx1.snd.fst (4 : Nat) xx1.snd.snd, Value.bool true], Value.tuple #[pv xx1.fst 0, Value.slice xx1.snd.fst (4 : Nat) xx1.snd.snd, Value.bool true], pv xx1.fst 0, Value.slice xx1.snd.fst (4 : Nat) xx1.snd.snd, Value.bool true, Value.bool true, Value.bool false, Value.tuple #[Value.agg #[iv (↑v : Int), iv 1, iv 16], iv 0], pv xx1.fst 0, Value.slice xx1.snd.fst (4 : Nat) xx1.snd.snd, pv (blk xx1.snd.fst) 0, pv (blk xx1.snd.fst) 0, iv 0, iv bu, Value.tuple #[Value.agg #[iv (↑v : Int), iv 1, iv 16], iv 0], Value.agg #[iv (↑v : Int), iv 1, iv 16], iv 0, pv xx1.fst 0, Value.slice xx1.snd.fst (4 : Nat) xx1.snd.snd, Value.pointer (some (Addr.mk (blk xx1.snd.fst) (offA xx1.snd.fst) none)), Value.pointer (some (Addr.mk (blk xx1.snd.fst) (offA xx1.snd.fst) none)), iv 0, pv xb1 0, iv (↑v : Int), Value.slice (some (Addr.mk xb2 (0 : Nat) none)) (3 : Nat) (3 : Nat), iv 0, iv 0, Value.bool false, Value.bool false, iv 0, Value.bool false, Value.bool false, Value.tuple #[Value.slice none (0 : Nat) (0 : Nat), iv 97], pv xx1.fst 0, Value.slice xx1.snd.fst (4 : Nat) xx1.snd.snd, Value.pointer (some (Addr.mk (blk xx1.snd.fst) (offA xx1.snd.fst + (3 : Nat)) none)), Value.pointer (some (Addr.mk (blk xx1.snd.fst) (offA xx1.snd.fst + (3 : Nat)) none)), iv 1, pv xb1 0, iv (↑v : Int), Value.tuple #[Value.slice none (0 : Nat) (0 : Nat), iv 97], Value.slice none (0 : Nat) (0 : Nat), iv 97, pv xx1.fst 0, Value.slice xx1.snd.fst (4 : Nat) xx1.snd.snd, Value.pointer (some (Addr.mk (blk xx1.snd.fst) (offA xx1.snd.fst + (3 : Nat)) none)), Value.pointer (some (Addr.mk (blk xx1.snd.fst) (offA xx1.snd.fst + (3 : Nat)) none)), iv 1, pv xb1 0, iv (↑v : Int), Value.slice a m c, iv 97, pv xx1.fst 0, Value.slice xx1.snd.fst (4 : Nat) xx1.snd.snd, Value.pointer (some (Addr.mk (blk xx1.snd.fst) (offA xx1.snd.fst + (3 : Nat)) none)), Value.pointer (some (Addr.mk (blk xx1.snd.fst) (offA xx1.snd.fst + (3 : Nat)) none)), iv 1, pv xb1 0, iv (↑v : Int), iv 97, iv 97, Value.bool false, Value.bool false, iv 97, Value.bool false, Value.bool false, Value.bool false, iv 97, Value.bool false, Value.bool false, iv k, Value.bool (decide (k < (6 : Int))), J 97, J 98, J 99, J 100, J 101, J 102, J 103, J 104, J 105, J 106, J 107, J 108, J 109, J 110, J 111, J 112, J 113, J 114, J 115, J 116, J 117, J 118, J 119, J 120, J 121, J 122, J 123, J 124, J 125, J 126, J 127, J 128, J 129, J 130, J 131, J 132, J 133, J 134, J 135, J 136, J 137, iv id, iv (↑xx2 : Int), iv ((4 : Int) + (↑xx2 : Int)), iv id, Value.bool (decide (id < (0 : Int))), tu, tu, tu, tu, tu, tu, tu, tu, tu, tu, tu, tu, tu, tu, tu, tu, tu, tu, tu, tu, tu, tu, tu, tu, tu, tu, tu, tu, tu, tu, tu, tu, tu, tu, tu, tu, tu, tu, tu, tu, tu, tu, tu, tu, tu, tu, tu, tu, tu, tu, tu, tu, tu, tu, tu, tu, tu, tu, tu, tu, tu, tu, tu, tu, tu, tu, tu, tu, tu, tu, tu, tu, tu, tu, tu, tu, tu, tu, tu, tu, tu, tu, tu, tu, tu, tu, tu, tu, tu, tu, tu, tu, tu, tu, tu, tu, tu, tu, tu, tu, tu, tu, tu, tu, tu, tu, tu, tu, tu, tu, tu, tu] : List Value).getD j9 undef) ?_))
        · rfl
        · by_cases h0 : xx2 = 0
          · refine .inr (.inr ⟨4, by omega, by omega, t5⟩)
          · refine .inr (.inl ?_)
            rw [t1]; omega
      · (focus
          refine Xg.at_keep [0, 1, 2, 3] (by kernel_rfl) ?_
          refine Xg.At.same (by kernel_rfl) ?_ (hk ((id), fun j9 => ([iv bu, iv id, Value.slice a m c, tu, tu, tu, J 6, pv xx1.fst 0, Value.slice xx1.snd.fst (4 : Nat) xx1.snd.snd, Value.bool true, pv xb1 0, J 11, J 12, J 13, iv k, iv id, tu, tu, tu, tu, tu, tu, tu, tu, tu, Value.tuple #[pv xx1.fst 0, Value.slice xx1.snd.fst (4 : Nat) xx1.snd.snd, Value.bool true], Value.tuple #[pv xx1.fst 0, Value.slice xx1.snd.fst (4 : Nat) xx1.snd.snd, Value.bool true], pv xx1.fst 0, Value.slice xx1.snd.fst (4 : Nat) xx1.snd.snd, Value.bool true, Value.bool true, Value.bool false, Value.tuple #[Value.agg #[iv (↑v : Int), iv 1, iv 16], iv 0], pv xx1.fst 0, Value.slice xx1.snd.fst (4 : Nat) xx1.snd.snd, pv (blk xx1.snd.fst) 0, pv (blk xx1.snd.fst) 0, iv 0, iv bu, Value.tuple #[Value.agg #[iv (↑v : Int), iv 1, iv 16], iv 0], Value.agg #[iv (↑v : Int), iv 1, iv 16], iv 0, pv xx1.fst 0, Value.slice xx1.snd.fst (4 : Nat) xx1.snd.snd, Value.pointer (some (Addr.mk (blk xx1.snd.fst) (offA xx1.snd.fst) none)), Value.pointer (some (Addr.mk (blk xx1.snd.fst) (offA xx1.snd.fst) none)), iv 0, pv xb1 0, iv (↑v : Int), Value.slice (some (Addr.mk xb2 (0 : Nat) none)) (3 : Nat) (3 : Nat), iv 0, iv 0, Value.bool false, Value.bool false, iv 0, Value.bool false, Value.bool false, Value.tuple #[Value.slice none (0 : Nat) (0 : Nat), iv 97], pv xx1.fst 0, Value.slice xx1.snd.fst (4 : Nat) xx1.snd.snd, Value.pointer (some (Addr.mk (blk xx1.snd.fst) (offA xx1.snd.fst + (3 : Nat)) none)), Value.pointer (some (Addr.mk (blk xx1.snd.fst) (offA xx1.snd.fst + (3 : Nat)) none)), iv 1, pv xb1 0, iv (↑v : Int), Value.tuple #[Value.slice none (0 : Nat) (0 : Nat), iv 97], Value.slice none (0 : Nat) (0 : Nat), iv 97, pv xx1.fst 0, Value.slice xx1.snd.fst (4 : Nat) xx1.snd.snd, Value.pointer (some (Addr.mk (blk xx1.snd.fst) (offA xx1.snd.fst + (3 : Nat)) none)), Value.pointer (some (Addr.mk (blk xx1.snd.fst) (offA xx1.snd.fst + (3 : Nat)) none)), iv 1, pv xb1 0, iv (↑v : Int), Value.slice a m c, iv 97, pv xx1.fst 0, Value.slice xx1.snd.fst (4 : Nat) xx1.snd.snd, Value.pointer (some (Addr.mk (blk xx1.snd.fst) (offA xx1.snd.fst + (3 : Nat)) none)), Value.pointer (some (Addr.mk (blk xx1.snd.fst) (offA xx1.snd.fst + (3 : Nat)) none)), iv 1, pv xb1 0, iv (↑v : Int), iv 97, iv 97, Value.bool false, Value.bool false, iv 97, Value.bool false, Value.bool false, Value.bool false, iv 97, Value.bool false, Value.bool false, iv k, Value.bool (decide (k < (6 : Int))), J 97, J 98, J 99, J 100, J 101, J 102, J 103, J 104, J 105, J 106, J 107, J 108, J 109, J 110, J 111, J 112, J 113, J 114, J 115, J 116, J 117, J 118, J 119, J 120, J 121, J 122, J 123, J 124, J 125, J 126, J 127, J 128, J 129, J 130, J 131, J 132, J 133, J 134, J 135, J 136, J 137, iv id, iv (↑xx2 : Int), iv ((4 : Int) + (↑xx2 : Int)), iv id, Value.bool (decide (id < (0 : Int))), iv id, tu, tu, tu, tu, tu, tu, tu, tu, tu, tu, tu, tu, tu, tu, tu, tu, tu, tu, tu, tu, tu, tu, tu, tu, tu, tu, tu, tu, tu, tu, tu, tu, tu, tu, tu, tu, tu, tu, tu, tu, tu, tu, tu, tu, tu, tu, tu, tu, tu, tu, tu, tu, tu, tu, tu, tu, tu, tu, tu, tu, tu, tu, tu, tu, tu, tu, tu, tu, tu, tu, tu, tu, tu, tu, tu, tu, tu, tu, tu, tu, tu, tu, tu, tu, tu, tu, tu, tu, tu, tu, tu, tu, tu, tu, tu, tu, tu, tu, tu, tu, tu, tu, tu, tu, tu, tu, tu, tu, tu, tu, tu] : List Value).getD j9 undef) ?_))
        · rfl
        · exact .inl (by omega)
    rintro ⟨y, J2⟩ hy
    dsimp only at hy
    (focus
      refine Xg.At.same (T' := [iv bu, iv id, Value.slice a m c, tu, tu, tu, J 6, pv xx1.fst 0, Value.slice xx1.snd.fst (4 : Nat) xx1.snd.snd, Value.bool true, pv xb1 0, J 11, J 12, J 13, iv k, iv y, tu, tu, tu, tu, tu, tu, tu, tu, tu, Value.tuple #[pv xx1.fst 0, Value.slice xx1.snd.fst (4 : Nat) xx1.snd.snd, Value.bool true], Value.tuple #[pv xx1.fst 0, Value.slice xx1.snd.fst (4 : Nat) xx1.snd.snd, Value.bool true], pv xx1.fst 0, Value.slice xx1.snd.fst (4 : Nat) xx1.snd.snd, Value.bool true, Value.bool true, Value.bool false, Value.tuple #[Value.agg #[iv (↑v : Int), iv 1, iv 16], iv 0], pv xx1.fst 0, Value.slice xx1.snd.fst (4 : Nat) xx1.snd.snd, pv (blk xx1.snd.fst) 0, pv (blk xx1.snd.fst) 0, iv 0, iv bu, Value.tuple #[Value.agg #[iv (↑v : Int), iv 1, iv 16], iv 0], Value.agg #[iv (↑v : Int), iv 1, iv 16], iv 0, pv xx1.fst 0, Value.slice xx1.snd.fst (4 : Nat) xx1.snd.snd, Value.pointer (some (Addr.mk (blk xx1.snd.fst) (offA xx1.snd.fst) none)), Value.pointer (some (Addr.mk (blk xx1.snd.fst) (offA xx1.snd.fst) none)), iv 0, pv xb1 0, iv (↑v : Int), Value.slice (some (Addr.mk xb2 (0 : Nat) none)) (3 : Nat) (3 : Nat), iv 0, iv 0, Value.bool false, Value.bool false, iv 0, Value.bool false, Value.bool false, Value.tuple #[Value.slice none (0 : Nat) (0 : Nat), iv 97], pv xx1.fst 0, Value.slice xx1.snd.fst (4 : Nat) xx1.snd.snd, Value.pointer (some (Addr.mk (blk xx1.snd.fst) (offA xx1.snd.fst + (3 : Nat)) none)), Value.pointer (some (Addr.mk (blk xx1.snd.fst) (offA xx1.snd.fst + (3 : Nat)) none)), iv 1, pv xb1 0, iv (↑v : Int), Value.tuple #[Value.slice none (0 : Nat) (0 : Nat), iv 97], Value.slice none (0 : Nat) (0 : Nat), iv 97, pv xx1.fst 0, Value.slice xx1.snd.fst (4 : Nat) xx1.snd.snd, Value.pointer (some (Addr.mk (blk xx1.snd.fst) (offA xx1.snd.fst + (3 : Nat)) none)), Value.pointer (some (Addr.mk (blk xx1.snd.fst) (offA xx1.snd.fst + (3 : Nat)) none)), iv 1, pv xb1 0, iv (↑v : Int), Value.slice a m c, iv 97, pv xx1.fst 0, Value.slice xx1.snd.fst (4 : Nat) xx1.snd.snd, Value.pointer (some (Addr.mk (blk xx1.snd.fst) (offA xx1.snd.fst + (3 : Nat)) none)), Value.pointer (some (Addr.mk (blk xx1.snd.fst) (offA xx1.snd.fst + (3 : Nat)) none)), iv 1, pv xb1 0, iv (↑v : Int), iv 97, iv 97, Value.bool false, Value.bool false, iv 97, Value.bool false, Value.bool false, Value.bool false, iv 97, Value.bool false, Value.bool false, iv k, Value.bool (decide (k < (6 : Int))), J 97, J 98, J 99, J 100, J 101, J 102, J 103, J 104, J 105, J 106, J 107, J 108, J 109, J 110, J 111, J 112, J 113, J 114, J 115, J 116, J 117, J 118, J 119, J 120, J 121, J 122, J 123, J 124, J 125, J 126, J 127, J 128, J 129, J 130, J 131, J 132, J 133, J 134, J 135, J 136, J 137, iv id, iv (↑xx2 : Int), iv ((4 : Int) + (↑xx2 : Int)), iv id, Value.bool (decide (id < (0 : Int))), J2 143, tu, tu, tu, tu, tu, tu, tu, tu, tu, tu, tu, tu, tu, tu, tu, tu, tu, tu, tu, tu, tu, tu, tu, tu, tu, tu, tu, tu, tu, tu, tu, tu, tu, tu, tu, tu, tu, tu, tu, tu, tu, tu, tu, tu, tu, tu, tu, tu, tu, tu, tu, tu, tu, tu, tu, tu, tu, tu, tu, tu, tu, tu, tu, tu, tu, tu, tu, tu, tu, tu, tu, tu, tu, tu, tu, tu, tu, tu, tu, tu, tu, tu, tu, tu, tu, tu, tu, tu, tu, tu, tu, tu, tu, tu, tu, tu, tu, tu, tu, tu, tu, tu, tu, tu, tu, tu, tu, tu, tu, tu, tu]) (L' := [PoolS xx1.fst τ, A, row xb1 (42 : TypeId) [iv (↑v : Int), iv 1, iv 16], recsO (62 : Nat) (3 : Nat) hdC xx1.snd.fst xx1.snd.snd [(0 : Int), (1 : Int), (2 : Int), (3 : Int)]]) (by kernel_rfl) rfl ?_)
    have n1 := fun p => take_no p τ (by omega) y hy 1 0
    have n2 := fun p => store_no p τ (by omega) y hy A (v : Nat) 0 a m c hm2
    have n3 := fun p => give_no p τ (by omega) y hy (v : Nat)
    have n4 := fun p => close_no p τ (by omega) y hy
    have n5 := fun p => used_no p τ (by omega) y hy
    have n6 := fun p => load_no p τ (by omega) y hy (v : Nat) 0 1
    have n7 := fun p => leases_no p τ (by omega) y hy
    have n8 : ∀ p, Does Try.prog 19 [.pointer (some ⟨p, 0, none⟩), .int .i64 0, .int .i64 (v : Nat), .int .i64 0, .int .i64 16] [PoolS p τ]
      (RetE (fun z : Option Addr × Nat => True) (fun z => .tuple #[.slice z.1 16 z.2, .int .i64 0]) (fun z => [PoolS p τ, Y2 z.1 z.2 [1, 2, 3, 0, 0, 0, 0, 0, 0, 0, 0, 0, 0, 0, 0, 0]])) := fun p => loadS p τ (by omega) (by omega) 0 (by omega) _ t3 v 0 16 (by rw [hfv]; decide) (by omega) _ t6 (by decide) (by decide)
    have hl16 : ([1, 2, 3, 0, 0, 0, 0, 0, 0, 0, 0, 0, 0, 0, 0, 0] : List Int).length = 16 := rfl
    (focus
      refine Xg.at_seq ?_
      refine Xg.at_region ?_
      refine Xg.ops_op (by kernel_rfl) (Xg.opx_pure ((pv xx1.fst 0)) rfl (fun _ => by kernel_rfl) ?_)
      refine Xg.ops_op (by kernel_rfl) (Xg.opx_pure ((iv y)) rfl (fun _ => by kernel_rfl) ?_)
      refine Xg.ops_op (by kernel_rfl) (Xg.opx_call1' [0] [PoolS xx1.fst τ, A, row xb1 (42 : TypeId) [iv (↑v : Int), iv 1, iv 16], recsO (62 : Nat) (3 : Nat) hdC xx1.snd.fst xx1.snd.snd [(0 : Int), (1 : Int), (2 : Int), (3 : Int)]] (fun _ => by kernel_rfl) (@n1 (xx1.fst)) (by kernel_rfl) (by kernel_rfl) (by kernel_rfl) ?_)
      refine Xg.ops_op (by kernel_rfl) (Xg.opx_pure ((Value.tuple #[Value.agg #[iv 0, iv 0, iv 0], iv 94])) rfl (fun _ => by kernel_rfl) ?_)
      refine Xg.ops_op (by kernel_rfl) (Xg.opx_pure ((Value.agg #[iv 0, iv 0, iv 0])) rfl (fun _ => by kernel_rfl) ?_)
      refine Xg.ops_op (by kernel_rfl) (Xg.opx_pure ((iv 94)) rfl (fun _ => by kernel_rfl) ?_)
      refine Xg.ops_op (by kernel_rfl) (Xg.opx_pure ((iv 94)) rfl (fun _ => by kernel_rfl) ?_)
      refine Xg.ops_nil ?_
      refine Xg.at_seq ?_
      refine Xg.at_region ?_
      refine Xg.ops_op (by kernel_rfl) (Xg.opx_pure ((pv xx1.fst 0)) rfl (fun _ => by kernel_rfl) ?_)
      refine Xg.ops_op (by kernel_rfl) (Xg.opx_pure ((iv y)) rfl (fun _ => by kernel_rfl) ?_)
      refine Xg.ops_op (by kernel_rfl) (Xg.opx_pure ((pv xb1 0)) rfl (fun _ => by kernel_rfl) ?_)
      refine Xg.ops_op (by kernel_rfl) (Xg.opx_load (b := xb1) (off := ((0 : Nat))) 2 (iv (↑v : Int)) rfl (by kernel_rfl) (by kernel_rfl) (by kernel_rfl) ?_)
      refine Xg.ops_op (by kernel_rfl) (Xg.opx_pure ((Value.slice a m c)) rfl (fun _ => by kernel_rfl) ?_)
      refine Xg.ops_op (by kernel_rfl) (Xg.opx_call1' [0, 1] [PoolS xx1.fst τ, A, row xb1 (42 : TypeId) [iv (↑v : Int), iv 1, iv 16], recsO (62 : Nat) (3 : Nat) hdC xx1.snd.fst xx1.snd.snd [(0 : Int), (1 : Int), (2 : Int), (3 : Int)]] (fun _ => by kernel_rfl) (@n2 (xx1.fst)) (by kernel_rfl) (by kernel_rfl) (by kernel_rfl) ?_)
      refine Xg.ops_op (by kernel_rfl) (Xg.opx_pure ((iv 94)) rfl (fun _ => by kernel_rfl) ?_)
      refine Xg.ops_nil ?_
      refine Xg.at_seq ?_
      refine Xg.at_region ?_
      refine Xg.ops_op (by kernel_rfl) (Xg.opx_pure ((pv xx1.fst 0)) rfl (fun _ => by kernel_rfl) ?_)
      refine Xg.ops_op (by kernel_rfl) (Xg.opx_pure ((iv y)) rfl (fun _ => by kernel_rfl) ?_)
      refine Xg.ops_op (by kernel_rfl) (Xg.opx_pure ((pv xb1 0)) rfl (fun _ => by kernel_rfl) ?_)
      refine Xg.ops_op (by kernel_rfl) (Xg.opx_load (b := xb1) (off := ((0 : Nat))) 2 (iv (↑v : Int)) rfl (by kernel_rfl) (by kernel_rfl) (by kernel_rfl) ?_)
      refine Xg.ops_op (by kernel_rfl) (Xg.opx_call1' [0] [PoolS xx1.fst τ, A, row xb1 (42 : TypeId) [iv (↑v : Int), iv 1, iv 16], recsO (62 : Nat) (3 : Nat) hdC xx1.snd.fst xx1.snd.snd [(0 : Int), (1 : Int), (2 : Int), (3 : Int)]] (fun _ => by kernel_rfl) (@n3 (xx1.fst)) (by kernel_rfl) (by kernel_rfl) (by kernel_rfl) ?_)
      refine Xg.ops_op (by kernel_rfl) (Xg.opx_pure ((iv 94)) rfl (fun _ => by kernel_rfl) ?_)
      refine Xg.ops_nil ?_
      refine Xg.at_seq ?_
      refine Xg.at_region ?_
      refine Xg.ops_op (by kernel_rfl) (Xg.opx_pure ((pv xx1.fst 0)) rfl (fun _ => by kernel_rfl) ?_)
      refine Xg.ops_op (by kernel_rfl) (Xg.opx_pure ((iv y)) rfl (fun _ => by kernel_rfl) ?_)
      refine Xg.ops_op (by kernel_rfl) (Xg.opx_call1' [0] [PoolS xx1.fst τ, A, row xb1 (42 : TypeId) [iv (↑v : Int), iv 1, iv 16], recsO (62 : Nat) (3 : Nat) hdC xx1.snd.fst xx1.snd.snd [(0 : Int), (1 : Int), (2 : Int), (3 : Int)]] (fun _ => by kernel_rfl) (@n4 (xx1.fst)) (by kernel_rfl) (by kernel_rfl) (by kernel_rfl) ?_)
      refine Xg.ops_op (by kernel_rfl) (Xg.opx_pure ((Value.tuple #[iv 0, iv 94])) rfl (fun _ => by kernel_rfl) ?_)
      refine Xg.ops_op (by kernel_rfl) (Xg.opx_pure ((iv 0)) rfl (fun _ => by kernel_rfl) ?_)
      refine Xg.ops_op (by kernel_rfl) (Xg.opx_pure ((iv 94)) rfl (fun _ => by kernel_rfl) ?_)
      refine Xg.ops_op (by kernel_rfl) (Xg.opx_pure ((iv 0)) rfl (fun _ => by kernel_rfl) ?_)
      refine Xg.ops_op (by kernel_rfl) (Xg.opx_pure ((iv 94)) rfl (fun _ => by kernel_rfl) ?_)
      refine Xg.ops_nil ?_
      refine Xg.at_seq ?_
      refine Xg.at_region ?_
      refine Xg.ops_op (by kernel_rfl) (Xg.opx_pure ((pv xx1.fst 0)) rfl (fun _ => by kernel_rfl) ?_)
      refine Xg.ops_op (by kernel_rfl) (Xg.opx_pure ((iv y)) rfl (fun _ => by kernel_rfl) ?_)
      refine Xg.ops_op (by kernel_rfl) (Xg.opx_call1' [0] [PoolS xx1.fst τ, A, row xb1 (42 : TypeId) [iv (↑v : Int), iv 1, iv 16], recsO (62 : Nat) (3 : Nat) hdC xx1.snd.fst xx1.snd.snd [(0 : Int), (1 : Int), (2 : Int), (3 : Int)]] (fun _ => by kernel_rfl) (@n5 (xx1.fst)) (by kernel_rfl) (by kernel_rfl) (by kernel_rfl) ?_)
      refine Xg.ops_op (by kernel_rfl) (Xg.opx_pure ((Value.tuple #[iv 0, iv 94])) rfl (fun _ => by kernel_rfl) ?_)
      refine Xg.ops_op (by kernel_rfl) (Xg.opx_pure ((iv 0)) rfl (fun _ => by kernel_rfl) ?_)
      refine Xg.ops_op (by kernel_rfl) (Xg.opx_pure ((iv 94)) rfl (fun _ => by kernel_rfl) ?_)
      refine Xg.ops_op (by kernel_rfl) (Xg.opx_pure ((iv 0)) rfl (fun _ => by kernel_rfl) ?_)
      refine Xg.ops_op (by kernel_rfl) (Xg.opx_pure ((iv 94)) rfl (fun _ => by kernel_rfl) ?_)
      refine Xg.ops_nil ?_
      refine Xg.at_seq ?_
      refine Xg.at_region ?_
      refine Xg.ops_op (by kernel_rfl) (Xg.opx_pure ((pv xx1.fst 0)) rfl (fun _ => by kernel_rfl) ?_)
      refine Xg.ops_op (by kernel_rfl) (Xg.opx_pure ((iv y)) rfl (fun _ => by kernel_rfl) ?_)
      refine Xg.ops_op (by kernel_rfl) (Xg.opx_pure ((pv xb1 0)) rfl (fun _ => by kernel_rfl) ?_)
      refine Xg.ops_op (by kernel_rfl) (Xg.opx_load (b := xb1) (off := ((0 : Nat))) 2 (iv (↑v : Int)) rfl (by kernel_rfl) (by kernel_rfl) (by kernel_rfl) ?_)
      refine Xg.ops_op (by kernel_rfl) (Xg.opx_call1' [0] [PoolS xx1.fst τ, A, row xb1 (42 : TypeId) [iv (↑v : Int), iv 1, iv 16], recsO (62 : Nat) (3 : Nat) hdC xx1.snd.fst xx1.snd.snd [(0 : Int), (1 : Int), (2 : Int), (3 : Int)]] (fun _ => by kernel_rfl) (@n6 (xx1.fst)) (by kernel_rfl) (by kernel_rfl) (by kernel_rfl) ?_)
      refine Xg.ops_op (by kernel_rfl) (Xg.opx_pure ((Value.tuple #[Value.slice none (0 : Nat) (0 : Nat), iv 94])) rfl (fun _ => by kernel_rfl) ?_)
      refine Xg.ops_op (by kernel_rfl) (Xg.opx_pure ((Value.slice none (0 : Nat) (0 : Nat))) rfl (fun _ => by kernel_rfl) ?_)
      refine Xg.ops_op (by kernel_rfl) (Xg.opx_pure ((iv 94)) rfl (fun _ => by kernel_rfl) ?_)
      refine Xg.ops_op (by kernel_rfl) (Xg.opx_pure ((Value.slice none (0 : Nat) (0 : Nat))) rfl (fun _ => by kernel_rfl) ?_)
      refine Xg.ops_op (by kernel_rfl) (Xg.opx_pure ((iv 94)) rfl (fun _ => by kernel_rfl) ?_)
      refine Xg.ops_nil ?_
      refine Xg.at_seq ?_
      refine Xg.at_region ?_
      refine Xg.ops_op (by kernel_rfl) (Xg.opx_pure ((pv xx1.fst 0)) rfl (fun _ => by kernel_rfl) ?_)
      refine Xg.ops_op (by kernel_rfl) (Xg.opx_pure ((iv y)) rfl (fun _ => by kernel_rfl) ?_)
      refine Xg.ops_op (by kernel_rfl) (Xg.opx_call1' [0] [PoolS xx1.fst τ, A, row xb1 (42 : TypeId) [iv (↑v : Int), iv 1, iv 16], recsO (62 : Nat) (3 : Nat) hdC xx1.snd.fst xx1.snd.snd [(0 : Int), (1 : Int), (2 : Int), (3 : Int)]] (fun _ => by kernel_rfl) (@n7 (xx1.fst)) (by kernel_rfl) (by kernel_rfl) (by kernel_rfl) ?_)
      refine Xg.ops_op (by kernel_rfl) (Xg.opx_pure ((Value.slice none (0 : Nat) (0 : Nat))) rfl (fun _ => by kernel_rfl) ?_)
      refine Xg.ops_nil ?_
      refine Xg.at_seq ?_
      refine Xg.at_draw [7] [(2, [0, 1, 2, 5, 6], (RdIs (3 : Nat) (Value.slice xx1.snd.fst [(0 : Int), (1 : Int), (2 : Int), (3 : Int)].length xx1.snd.snd) [(0 : Int), (1 : Int), (2 : Int), (3 : Int)].length (recs hdC [(0 : Int), (1 : Int), (2 : Int), (3 : Int)]))), (4, [0, 1, 2, 3, 4, 5, 6], (RdIs (3 : Nat) (Value.slice xx1.snd.fst [(0 : Int), (1 : Int), (2 : Int), (3 : Int)].length xx1.snd.snd) [(0 : Int), (1 : Int), (2 : Int), (3 : Int)].length (recs hdC [(0 : Int), (1 : Int), (2 : Int), (3 : Int)]))), (6, [0, 1, 2, 3, 4, 5, 6], Xg.CellIs (xb1) (((0 : Nat))) ((iv (↑v : Int))))] (by kernel_rfl) ?_
      refine Xg.any_pure ((pv xx1.fst 0)) 0 (by kernel_rfl) rfl (by kernel_rfl) (by kernel_rfl) (by kernel_rfl) (by kernel_rfl) rfl (fun _ => by kernel_rfl) ?_
      refine Xg.any_pure ((Value.slice xx1.snd.fst (4 : Nat) xx1.snd.snd)) 1 (by kernel_rfl) rfl (by kernel_rfl) (by kernel_rfl) (by kernel_rfl) (by kernel_rfl) rfl (fun _ => by kernel_rfl) ?_
      refine Xg.any_reads (.pointer (some (Addr.mk (Xg.blk xx1.snd.fst) (offA xx1.snd.fst + (0 : Nat)) none))) 2 0 (by kernel_rfl) rfl (by kernel_rfl) (by kernel_rfl) (by kernel_rfl) (by kernel_rfl) rfl rfl (by kernel_rfl) (Xg.rd_now 3 (Xg.reads_own (E := ((62 : Nat))) (sz := ((3 : Nat))) (n := ([(0 : Int), (1 : Int), (2 : Int), (3 : Int)].length)) (c := xx1.snd.snd) (a := xx1.snd.fst) (vs := (recs hdC [(0 : Int), (1 : Int), (2 : Int), (3 : Int)]))) (by kernel_rfl)) (Xg.run_ix_rd (elem := 62) (kd := .i64) (e := ((0 : Int))) 3 ((0 : Nat)) (offA xx1.snd.fst + (0 : Nat)) (by kernel_rfl) (by kernel_rfl) (by kernel_rfl) (by kernel_rfl) rfl (by omega) (by rw [Xg.recs_len (wd := 3) (fun _ => rfl)]; omega) (by omega)) ?_
      refine Xg.any_pure ((Value.pointer (some (Addr.mk (blk xx1.snd.fst) (offA xx1.snd.fst) none)))) 3 (by kernel_rfl) rfl (by kernel_rfl) (by kernel_rfl) (by kernel_rfl) (by kernel_rfl) rfl (fun _ => by kernel_rfl) ?_
      refine Xg.any_reads (iv 0) 4 1 (by kernel_rfl) rfl (by kernel_rfl) (by kernel_rfl) (by kernel_rfl) (by kernel_rfl) rfl rfl (by kernel_rfl) (Xg.rd_now 3 (Xg.reads_own (E := ((62 : Nat))) (sz := ((3 : Nat))) (n := ([(0 : Int), (1 : Int), (2 : Int), (3 : Int)].length)) (c := xx1.snd.snd) (a := xx1.snd.fst) (vs := (recs hdC [(0 : Int), (1 : Int), (2 : Int), (3 : Int)]))) (by kernel_rfl)) (Xg.run_load_rd (off0 := (offA xx1.snd.fst)) ((0 : Nat)) (by kernel_rfl) (by omega) (Xg.get_recs' (wd := 3) (fun _ => rfl) default ((0 : Nat)) 0 (by omega) (by decide) (by omega) (by kernel_rfl)) (by kernel_rfl)) ?_
      refine Xg.any_pure ((pv xb1 0)) 5 (by kernel_rfl) rfl (by kernel_rfl) (by kernel_rfl) (by kernel_rfl) (by kernel_rfl) rfl (fun _ => by kernel_rfl) ?_
      refine Xg.any_reads (iv (↑v : Int)) 6 2 (by kernel_rfl) rfl (by kernel_rfl) (by kernel_rfl) (by kernel_rfl) (by kernel_rfl) rfl rfl (by kernel_rfl) (Xg.cell_now (b := xb1) (off := ((0 : Nat))) 2 rfl (by kernel_rfl)) (fun _ h => Xg.run_load (by kernel_rfl) (by kernel_rfl) h) ?_
      refine Xg.any_each [7] (by kernel_rfl) rfl ⟨?_, trivial⟩
      refine Xg.comes_act rfl (by kernel_rfl) (by kernel_rfl) (Xg.opx_callE' [0] (fun xx3 => [PoolS xx1.fst τ, Y2 xx3.fst xx3.snd [(1 : Int), (2 : Int), (3 : Int), (0 : Int), (0 : Int), (0 : Int), (0 : Int), (0 : Int), (0 : Int), (0 : Int), (0 : Int), (0 : Int), (0 : Int), (0 : Int), (0 : Int), (0 : Int)], A, row xb1 (42 : TypeId) [iv (↑v : Int), iv 1, iv 16], recsO (62 : Nat) (3 : Nat) hdC xx1.snd.fst xx1.snd.snd [(0 : Int), (1 : Int), (2 : Int), (3 : Int)]]) (fun _ => by kernel_rfl) (@n8 (xx1.fst)) (by kernel_rfl) (by kernel_rfl) (by kernel_rfl) fun xx3 xh3 => ?_)
      try dsimp only at xh3
      refine Xg.acts (Xg.owes_skip (by kernel_rfl) (Xg.owes_skip (by kernel_rfl) (Xg.owes_skip (by kernel_rfl) Xg.owes_nil))) ?_
      refine Xg.any_pure ((Value.tuple #[Value.slice xx3.fst (16 : Nat) xx3.snd, iv 0])) 8 (by kernel_rfl) rfl (by kernel_rfl) (by kernel_rfl) (by kernel_rfl) (by kernel_rfl) rfl (fun _ => by kernel_rfl) ?_
      refine Xg.any_pure ((Value.slice xx3.fst (16 : Nat) xx3.snd)) 9 (by kernel_rfl) rfl (by kernel_rfl) (by kernel_rfl) (by kernel_rfl) (by kernel_rfl) rfl (fun _ => by kernel_rfl) ?_
      refine Xg.any_pure ((iv 0)) 10 (by kernel_rfl) rfl (by kernel_rfl) (by kernel_rfl) (by kernel_rfl) (by kernel_rfl) rfl (fun _ => by kernel_rfl) ?_
      refine Xg.any_pure ((Value.slice xx3.fst (16 : Nat) xx3.snd)) 11 (by kernel_rfl) rfl (by kernel_rfl) (by kernel_rfl) (by kernel_rfl) (by kernel_rfl) rfl (fun _ => by kernel_rfl) ?_
      refine Xg.any_pure ((iv 0)) 12 (by kernel_rfl) rfl (by kernel_rfl) (by kernel_rfl) (by kernel_rfl) (by kernel_rfl) rfl (fun _ => by kernel_rfl) ?_
      refine Xg.any_nil (by kernel_rfl) ?_
      refine Xg.at_seq ?_
      refine Xg.at_region ?_
      refine Xg.ops_op (by kernel_rfl) (Xg.opx_pure ((iv 94)) rfl (fun _ => by kernel_rfl) ?_)
      refine Xg.ops_op (by kernel_rfl) (Xg.opx_pure ((Value.bool true)) rfl (fun _ => by kernel_rfl) ?_)
      refine Xg.ops_op (by kernel_rfl) (Xg.opx_pure ((Value.bool true)) rfl (fun _ => by kernel_rfl) ?_)
      refine Xg.ops_op (by kernel_rfl) (Xg.opx_pure ((iv 94)) rfl (fun _ => by kernel_rfl) ?_)
      refine Xg.ops_op (by kernel_rfl) (Xg.opx_pure ((Value.bool true)) rfl (fun _ => by kernel_rfl) ?_)
      refine Xg.ops_op (by kernel_rfl) (Xg.opx_pure ((Value.bool true)) rfl (fun _ => by kernel_rfl) ?_)
      refine Xg.ops_op (by kernel_rfl) (Xg.opx_pure ((Value.bool true)) rfl (fun _ => by kernel_rfl) ?_)
      refine Xg.ops_op (by kernel_rfl) (Xg.opx_pure ((iv 94)) rfl (fun _ => by kernel_rfl) ?_)
      refine Xg.ops_op (by kernel_rfl) (Xg.opx_pure ((Value.bool true)) rfl (fun _ => by kernel_rfl) ?_)
      refine Xg.ops_op (by kernel_rfl) (Xg.opx_pure ((Value.bool true)) rfl (fun _ => by kernel_rfl) ?_)
      refine Xg.ops_op (by kernel_rfl) (Xg.opx_pure ((Value.bool true)) rfl (fun _ => by kernel_rfl) ?_)
      refine Xg.ops_op (by kernel_rfl) (Xg.opx_pure ((iv 94)) rfl (fun _ => by kernel_rfl) ?_)
      refine Xg.ops_op (by kernel_rfl) (Xg.opx_pure ((Value.bool true)) rfl (fun _ => by kernel_rfl) ?_)
      refine Xg.ops_op (by kernel_rfl) (Xg.opx_pure ((Value.bool true)) rfl (fun _ => by kernel_rfl) ?_)
      refine Xg.ops_op (by kernel_rfl) (Xg.opx_pure ((Value.bool true)) rfl (fun _ => by kernel_rfl) ?_)
      refine Xg.ops_op (by kernel_rfl) (Xg.opx_pure ((iv 94)) rfl (fun _ => by kernel_rfl) ?_)
      refine Xg.ops_op (by kernel_rfl) (Xg.opx_pure ((Value.bool true)) rfl (fun _ => by kernel_rfl) ?_)
      refine Xg.ops_op (by kernel_rfl) (Xg.opx_pure ((Value.bool true)) rfl (fun _ => by kernel_rfl) ?_)
      refine Xg.ops_op (by kernel_rfl) (Xg.opx_pure ((Value.bool true)) rfl (fun _ => by kernel_rfl) ?_)
      refine Xg.ops_op (by kernel_rfl) (Xg.opx_pure ((iv 94)) rfl (fun _ => by kernel_rfl) ?_)
      refine Xg.ops_op (by kernel_rfl) (Xg.opx_pure ((Value.bool true)) rfl (fun _ => by kernel_rfl) ?_)
      refine Xg.ops_op (by kernel_rfl) (Xg.opx_pure ((Value.bool true)) rfl (fun _ => by kernel_rfl) ?_)
      refine Xg.ops_op (by kernel_rfl) (Xg.opx_pure ((Value.bool true)) rfl (fun _ => by kernel_rfl) ?_)
      refine Xg.ops_op (by kernel_rfl) (Xg.opx_pure ((Value.slice none (0 : Nat) (0 : Nat))) rfl (fun _ => by kernel_rfl) ?_)
      refine Xg.ops_op (by kernel_rfl) (Xg.opx_pure ((iv 0)) rfl (fun _ => by kernel_rfl) ?_)
      refine Xg.ops_op (by kernel_rfl) (Xg.opx_pure ((Value.bool true)) rfl (fun _ => by kernel_rfl) ?_)
      refine Xg.ops_op (by kernel_rfl) (Xg.opx_pure ((Value.bool true)) rfl (fun _ => by kernel_rfl) ?_)
      refine Xg.ops_op (by kernel_rfl) (Xg.opx_pure ((Value.bool true)) rfl (fun _ => by kernel_rfl) ?_)
      refine Xg.ops_op (by kernel_rfl) (Xg.opx_pure ((iv 0)) rfl (fun _ => by kernel_rfl) ?_)
      refine Xg.ops_op (by kernel_rfl) (Xg.opx_pure ((Value.bool true)) rfl (fun _ => by kernel_rfl) ?_)
      refine Xg.ops_op (by kernel_rfl) (Xg.opx_pure ((Value.bool true)) rfl (fun _ => by kernel_rfl) ?_)
      refine Xg.ops_op (by kernel_rfl) (Xg.opx_pure ((Value.bool true)) rfl (fun _ => by kernel_rfl) ?_)
      refine Xg.ops_op (by kernel_rfl) (Xg.opx_pure ((Value.slice xx3.fst (16 : Nat) xx3.snd)) rfl (fun _ => by kernel_rfl) ?_)
      refine Xg.ops_op (by kernel_rfl) (Xg.opx_pure ((iv 16)) rfl (fun _ => by kernel_rfl) ?_)
      refine Xg.ops_op (by kernel_rfl) (Xg.opx_pure ((Value.bool true)) rfl (fun _ => by kernel_rfl) ?_)
      refine Xg.ops_op (by kernel_rfl) (Xg.opx_pure ((Value.bool true)) rfl (fun _ => by kernel_rfl) ?_)
      refine Xg.ops_op (by kernel_rfl) (Xg.opx_pure ((Value.bool true)) rfl (fun _ => by kernel_rfl) ?_)
      refine Xg.ops_op (by kernel_rfl) (Xg.opx_pure ((Value.slice xx3.fst (16 : Nat) xx3.snd)) rfl (fun _ => by kernel_rfl) ?_)
      refine Xg.ops_op (by kernel_rfl) (Xg.opx_ix_own (elem := 5) (kd := .i64) (e := ((0 : Int))) 1 1 ((0 : Nat)) ((0 : Nat)) rfl (by kernel_rfl) (by kernel_rfl) (by kernel_rfl) (by kernel_rfl) rfl (by omega) (by omega) ?_)
      refine Xg.ops_op (by kernel_rfl) (Xg.opx_load_own (a := xx3.fst) (off := ((0 : Nat))) 1 (uv ([(1 : Int), (2 : Int), (3 : Int), (0 : Int), (0 : Int), (0 : Int), (0 : Int), (0 : Int), (0 : Int), (0 : Int), (0 : Int), (0 : Int), (0 : Int), (0 : Int), (0 : Int), (0 : Int)].getD (0 : Nat) (0 : Int))) rfl (by kernel_rfl) (Xg.get_ints (by omega)) (by kernel_rfl) ?_)
      refine Xg.ops_op (by kernel_rfl) (Xg.opx_pure ((Value.bool true)) rfl (fun _ => by kernel_rfl) ?_)
      refine Xg.ops_op (by kernel_rfl) (Xg.opx_pure ((Value.bool true)) rfl (fun _ => by kernel_rfl) ?_)
      refine Xg.ops_op (by kernel_rfl) (Xg.opx_pure ((Value.bool true)) rfl (fun _ => by kernel_rfl) ?_)
      refine Xg.ops_op (by kernel_rfl) (Xg.opx_pure ((Value.slice xx3.fst (16 : Nat) xx3.snd)) rfl (fun _ => by kernel_rfl) ?_)
      refine Xg.ops_op (by kernel_rfl) (Xg.opx_ix_own (elem := 5) (kd := .i64) (e := ((1 : Int))) 1 1 ((1 : Nat)) ((1 : Nat)) rfl (by kernel_rfl) (by kernel_rfl) (by kernel_rfl) (by kernel_rfl) rfl (by omega) (by omega) ?_)
      refine Xg.ops_op (by kernel_rfl) (Xg.opx_load_own (a := xx3.fst) (off := ((1 : Nat))) 1 (uv ([(1 : Int), (2 : Int), (3 : Int), (0 : Int), (0 : Int), (0 : Int), (0 : Int), (0 : Int), (0 : Int), (0 : Int), (0 : Int), (0 : Int), (0 : Int), (0 : Int), (0 : Int), (0 : Int)].getD (1 : Nat) (0 : Int))) rfl (by kernel_rfl) (Xg.get_ints (by omega)) (by kernel_rfl) ?_)
      refine Xg.ops_op (by kernel_rfl) (Xg.opx_pure ((Value.bool true)) rfl (fun _ => by kernel_rfl) ?_)
      refine Xg.ops_op (by kernel_rfl) (Xg.opx_pure ((Value.bool true)) rfl (fun _ => by kernel_rfl) ?_)
      refine Xg.ops_op (by kernel_rfl) (Xg.opx_pure ((Value.bool true)) rfl (fun _ => by kernel_rfl) ?_)
      refine Xg.ops_op (by kernel_rfl) (Xg.opx_pure ((Value.slice xx3.fst (16 : Nat) xx3.snd)) rfl (fun _ => by kernel_rfl) ?_)
      refine Xg.ops_op (by kernel_rfl) (Xg.opx_ix_own (elem := 5) (kd := .i64) (e := ((2 : Int))) 1 1 ((2 : Nat)) ((2 : Nat)) rfl (by kernel_rfl) (by kernel_rfl) (by kernel_rfl) (by kernel_rfl) rfl (by omega) (by omega) ?_)
      refine Xg.ops_op (by kernel_rfl) (Xg.opx_load_own (a := xx3.fst) (off := ((2 : Nat))) 1 (uv ([(1 : Int), (2 : Int), (3 : Int), (0 : Int), (0 : Int), (0 : Int), (0 : Int), (0 : Int), (0 : Int), (0 : Int), (0 : Int), (0 : Int), (0 : Int), (0 : Int), (0 : Int), (0 : Int)].getD (2 : Nat) (0 : Int))) rfl (by kernel_rfl) (Xg.get_ints (by omega)) (by kernel_rfl) ?_)
      refine Xg.ops_op (by kernel_rfl) (Xg.opx_pure ((Value.bool true)) rfl (fun _ => by kernel_rfl) ?_)
      refine Xg.ops_op (by kernel_rfl) (Xg.opx_pure ((Value.bool true)) rfl (fun _ => by kernel_rfl) ?_)
      refine Xg.ops_op (by kernel_rfl) (Xg.opx_pure ((Value.bool true)) rfl (fun _ => by kernel_rfl) ?_)
      refine Xg.ops_op (by kernel_rfl) (Xg.opx_pure ((Value.slice xx3.fst (16 : Nat) xx3.snd)) rfl (fun _ => by kernel_rfl) ?_)
      refine Xg.ops_op (by kernel_rfl) (Xg.opx_ix_own (elem := 5) (kd := .i64) (e := ((3 : Int))) 1 1 ((3 : Nat)) ((3 : Nat)) rfl (by kernel_rfl) (by kernel_rfl) (by kernel_rfl) (by kernel_rfl) rfl (by omega) (by omega) ?_)
      refine Xg.ops_op (by kernel_rfl) (Xg.opx_load_own (a := xx3.fst) (off := ((3 : Nat))) 1 (uv ([(1 : Int), (2 : Int), (3 : Int), (0 : Int), (0 : Int), (0 : Int), (0 : Int), (0 : Int), (0 : Int), (0 : Int), (0 : Int), (0 : Int), (0 : Int), (0 : Int), (0 : Int), (0 : Int)].getD (3 : Nat) (0 : Int))) rfl (by kernel_rfl) (Xg.get_ints (by omega)) (by kernel_rfl) ?_)
      refine Xg.ops_op (by kernel_rfl) (Xg.opx_pure ((Value.bool true)) rfl (fun _ => by kernel_rfl) ?_)
      refine Xg.ops_op (by kernel_rfl) (Xg.opx_pure ((Value.bool true)) rfl (fun _ => by kernel_rfl) ?_)
      refine Xg.ops_op (by kernel_rfl) (Xg.opx_pure ((Value.bool true)) rfl (fun _ => by kernel_rfl) ?_)
      refine Xg.ops_nil ?_
      refine Xg.at_ret_ps (v := (Value.bool true)) [2] [A] Go.Proofs.Try.func10 (fun _ => by kernel_rfl) (by kernel_rfl) (by kernel_rfl) ?_
      exact ⟨by kernel_rfl, by kernel_rfl⟩)
end Go.Proofs.Ytmplimmcjdkhlaa
