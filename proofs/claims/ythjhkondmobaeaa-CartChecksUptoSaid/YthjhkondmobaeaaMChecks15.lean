import Derived.Test.YthjhkondmobaeaaMChecks14
/- cart: the document's answer: Check. -/
namespace Go.Proofs.Ythjhkondmobaeaa
open Go.Sl Go.Xg
set_option linter.unusedVariables false
set_option linter.unusedSimpArgs false
set_option maxHeartbeats 4000000
set_option maxRecDepth 100000

theorem kd_len {t : Int} {k : Kd} (h : kdOf t = some k) : k.cl.length ≤ 4 ∧ 0 ≤ k.bk ∧ k.bk ≤ 128 ∧ 0 ≤ k.mp ∧ k.mp ≤ 5 := by
  unfold kdOf at h
  simp only [Option.map_eq_some_iff] at h
  obtain ⟨⟨y, k'⟩, h1, rfl⟩ := h
  have h2 := List.mem_of_find?_eq_some h1
  simp only [kdL, List.mem_cons, Prod.mk.injEq, List.not_mem_nil, or_false] at h2
  rcases h2 with ⟨-, rfl⟩ | ⟨-, rfl⟩ | ⟨-, rfl⟩ | ⟨-, rfl⟩ | ⟨-, rfl⟩ | ⟨-, rfl⟩ | ⟨-, rfl⟩ | ⟨-, rfl⟩ | ⟨-, rfl⟩ | ⟨-, rfl⟩ | ⟨-, rfl⟩ | ⟨-, rfl⟩ | ⟨-, rfl⟩ | ⟨-, rfl⟩ <;> (dsimp only; decide)
theorem take_mem (xs : List Int) (i : Nat) (q : Int) (h : i < xs.length) : decide (q ∈ xs.take (i + 1)) = (decide (q ∈ xs.take i) || decide (xs.getD i 0 = q)) := by
  have e : q ∈ xs.take (i + 1) ↔ q ∈ xs.take i ∨ xs.getD i 0 = q := by
    rw [List.take_succ_eq_append_getElem h, List.mem_append, List.mem_singleton, List.getD_eq_getElem?_getD, List.getElem?_eq_getElem h, Option.getD_some]
    exact or_congr Iff.rfl eq_comm
  rw [← Bool.decide_or]
  exact decide_eq_decide.2 e
theorem take_one (xs : List Int) (i : Nat) (h : i < xs.length) : xs.take i ++ [xs.getD i 0] = xs.take (i + 1) := by
  rw [List.take_succ_eq_append_getElem h, List.getD_eq_getElem?_getD, List.getElem?_eq_getElem h]
  rfl
theorem rcheck_d (A : HP) (a : Option Addr) (n c : Nat) (B : List Int) (hn : B.length = n) (hc : n ≤ c) (hm2 : n ≤ 9223372036854775807) (hB : isB B) (hR : Reads A 1 (.slice a n c) n (B.map (Value.int .u8))) : Does Try.prog 25 [.slice a n c] [A] (Ret (.tuple #[hdV (chk B).1, .int .i64 (chk B).2]) [A]) := by
  by_cases h0' : n < 32768 ∨ 2097152 < n
  · have hck : chk B = (hd0, 41) := by unfold chk; rw [if_pos (by omega)]
    rw [hck]
    (focus
      refine Xg.spec_of Go.Proofs.Try.func25 rfl Go.Proofs.Try.ntmps25 fun g F => ?_)
    by_cases h0a : n < 32768
    · (focus
        refine Xg.at_seq ?_
        refine Xg.at_region ?_
        refine Xg.ops_op (by kernel_rfl) (Xg.opx_new 6 [Value.string (ByteArray.mk #[]), iv 0, iv 0, iv 0, iv 0, Value.bool false] (by kernel_rfl) (by kernel_rfl) fun xb1 => ?_)
        refine Xg.ops_op (by kernel_rfl) (Xg.opx_pure ((iv 0)) rfl (fun _ => by kernel_rfl) ?_)
        refine Xg.ops_nil ?_
        refine Xg.at_seq ?_
        refine Xg.at_region ?_
        refine Xg.ops_op (by kernel_rfl) (Xg.opx_new 6 [Value.string (ByteArray.mk #[]), iv 0, iv 0, iv 0, iv 0, Value.bool false] (by kernel_rfl) (by kernel_rfl) fun xb2 => ?_)
        refine Xg.ops_nil ?_
        refine Xg.at_seq ?_
        refine Xg.at_seq ?_
        refine Xg.at_region ?_
        refine Xg.ops_op (by kernel_rfl) (Xg.opx_pure ((Value.slice a n c)) rfl (fun _ => by kernel_rfl) ?_)
        refine Xg.ops_op (by kernel_rfl) (Xg.opx_pure ((iv (↑n : Int))) rfl (fun _ => by kernel_rfl) ?_)
        refine Xg.ops_op (by kernel_rfl) (Xg.opx_pure (.bool (decide ((((↑n : Int)) : Int) < ((32768 : Int))))) rfl (fun _ => by kernel_rfl) ?_)
        refine Xg.ops_op (by kernel_rfl) (Xg.opx_pure ((Value.bool (decide ((↑n : Int) < (32768 : Int))))) rfl (fun _ => by kernel_rfl) ?_)
        refine Xg.ops_flag (j := 21) (c := (decide ((↑n : Int) < (32768 : Int)))) (by kernel_rfl) (fun _ => ?_) (fun xh1 => absurd (of_decide_eq_false xh1) (by omega))
        refine Xg.ops_skip (by kernel_rfl) ?_
        refine Xg.ops_skip (by kernel_rfl) ?_
        refine Xg.ops_skip (by kernel_rfl) ?_
        refine Xg.ops_op (by kernel_rfl) (Xg.opx_pure ((Value.bool true)) rfl (fun _ => by kernel_rfl) ?_)
        refine Xg.ops_nil ?_
        refine Xg.at_true (t := true) (by kernel_rfl) rfl ?_
        refine Xg.at_seq ?_
        refine Xg.at_region ?_
        refine Xg.ops_op (by kernel_rfl) (Xg.opx_loadn (off := 0) 6 0 [Value.string (ByteArray.mk #[]), iv 0, iv 0, iv 0, iv 0, Value.bool false] (by kernel_rfl) rfl (by kernel_rfl) rfl (Xg.cells_at (by kernel_rfl)) (by kernel_rfl) ?_)
        refine Xg.ops_op (by kernel_rfl) (Xg.opx_storen 6 (off := 0) 1 [Value.string (ByteArray.mk #[]), iv 0, iv 0, iv 0, iv 0, Value.bool false] (by kernel_rfl) rfl (by kernel_rfl) (by kernel_rfl) rfl (by kernel_rfl) (Nat.le_of_ble_eq_true (by kernel_rfl)) ?_)
        refine Xg.ops_op (by kernel_rfl) (Xg.opx_pure ((iv 41)) rfl (fun _ => by kernel_rfl) ?_)
        refine Xg.ops_nil ?_
        refine Xg.at_ret_feed (v := (Value.tuple #[Value.agg #[Value.string (ByteArray.mk #[]), iv 0, iv 0, iv 0, iv 0, Value.bool false], iv 41])) [(Addr.mk xb1 (0 : Nat) none), (Addr.mk xb1 (1 : Nat) none), (Addr.mk xb1 (2 : Nat) none), (Addr.mk xb1 (3 : Nat) none), (Addr.mk xb1 (4 : Nat) none), (Addr.mk xb1 (5 : Nat) none)] [Value.string (ByteArray.mk #[]), iv 0, iv 0, iv 0, iv 0, Value.bool false] [2] [A] Go.Proofs.Try.func25 (by kernel_rfl) (Xg.cells_cons (b := xb1) (off := 0) 1 rfl (by kernel_rfl) (Xg.cells_cons (b := xb1) (off := 1) 1 rfl (by kernel_rfl) (Xg.cells_cons (b := xb1) (off := 2) 1 rfl (by kernel_rfl) (Xg.cells_cons (b := xb1) (off := 3) 1 rfl (by kernel_rfl) (Xg.cells_cons (b := xb1) (off := 4) 1 rfl (by kernel_rfl) (Xg.cells_cons (b := xb1) (off := 5) 1 rfl (by kernel_rfl) Xg.cells_nil)))))) (by kernel_rfl) (by kernel_rfl) ?_
        exact ⟨by kernel_rfl, by kernel_rfl⟩)
    · (focus
        refine Xg.at_seq ?_
        refine Xg.at_region ?_
        refine Xg.ops_op (by kernel_rfl) (Xg.opx_new 6 [Value.string (ByteArray.mk #[]), iv 0, iv 0, iv 0, iv 0, Value.bool false] (by kernel_rfl) (by kernel_rfl) fun xb1 => ?_)
        refine Xg.ops_op (by kernel_rfl) (Xg.opx_pure ((iv 0)) rfl (fun _ => by kernel_rfl) ?_)
        refine Xg.ops_nil ?_
        refine Xg.at_seq ?_
        refine Xg.at_region ?_
        refine Xg.ops_op (by kernel_rfl) (Xg.opx_new 6 [Value.string (ByteArray.mk #[]), iv 0, iv 0, iv 0, iv 0, Value.bool false] (by kernel_rfl) (by kernel_rfl) fun xb2 => ?_)
        refine Xg.ops_nil ?_
        refine Xg.at_seq ?_
        refine Xg.at_seq ?_
        refine Xg.at_region ?_
        refine Xg.ops_op (by kernel_rfl) (Xg.opx_pure ((Value.slice a n c)) rfl (fun _ => by kernel_rfl) ?_)
        refine Xg.ops_op (by kernel_rfl) (Xg.opx_pure ((iv (↑n : Int))) rfl (fun _ => by kernel_rfl) ?_)
        refine Xg.ops_op (by kernel_rfl) (Xg.opx_pure (.bool (decide ((((↑n : Int)) : Int) < ((32768 : Int))))) rfl (fun _ => by kernel_rfl) ?_)
        refine Xg.ops_op (by kernel_rfl) (Xg.opx_pure ((Value.bool (decide ((↑n : Int) < (32768 : Int))))) rfl (fun _ => by kernel_rfl) ?_)
        refine Xg.ops_flag (j := 21) (c := (decide ((↑n : Int) < (32768 : Int)))) (by kernel_rfl) (fun xh1 => absurd (of_decide_eq_true xh1) (by omega)) (fun _ => ?_)
        refine Xg.ops_op (by kernel_rfl) (Xg.opx_pure ((Value.slice a n c)) rfl (fun _ => by kernel_rfl) ?_)
        refine Xg.ops_op (by kernel_rfl) (Xg.opx_pure ((iv (↑n : Int))) rfl (fun _ => by kernel_rfl) ?_)
        refine Xg.ops_op (by kernel_rfl) (Xg.opx_pure (.bool (decide ((((↑n : Int)) : Int) > ((2097152 : Int))))) rfl (fun _ => by kernel_rfl) ?_)
        refine Xg.ops_flag (j := 24) (c := (decide ((↑n : Int) > (2097152 : Int)))) (by kernel_rfl) (fun _ => ?_) (fun xh1 => absurd (of_decide_eq_false xh1) (by omega))
        refine Xg.ops_op (by kernel_rfl) (Xg.opx_pure ((Value.bool true)) rfl (fun _ => by kernel_rfl) ?_)
        refine Xg.ops_nil ?_
        refine Xg.at_true (t := true) (by kernel_rfl) rfl ?_
        refine Xg.at_seq ?_
        refine Xg.at_region ?_
        refine Xg.ops_op (by kernel_rfl) (Xg.opx_loadn (off := 0) 6 0 [Value.string (ByteArray.mk #[]), iv 0, iv 0, iv 0, iv 0, Value.bool false] (by kernel_rfl) rfl (by kernel_rfl) rfl (Xg.cells_at (by kernel_rfl)) (by kernel_rfl) ?_)
        refine Xg.ops_op (by kernel_rfl) (Xg.opx_storen 6 (off := 0) 1 [Value.string (ByteArray.mk #[]), iv 0, iv 0, iv 0, iv 0, Value.bool false] (by kernel_rfl) rfl (by kernel_rfl) (by kernel_rfl) rfl (by kernel_rfl) (Nat.le_of_ble_eq_true (by kernel_rfl)) ?_)
        refine Xg.ops_op (by kernel_rfl) (Xg.opx_pure ((iv 41)) rfl (fun _ => by kernel_rfl) ?_)
        refine Xg.ops_nil ?_
        refine Xg.at_ret_feed (v := (Value.tuple #[Value.agg #[Value.string (ByteArray.mk #[]), iv 0, iv 0, iv 0, iv 0, Value.bool false], iv 41])) [(Addr.mk xb1 (0 : Nat) none), (Addr.mk xb1 (1 : Nat) none), (Addr.mk xb1 (2 : Nat) none), (Addr.mk xb1 (3 : Nat) none), (Addr.mk xb1 (4 : Nat) none), (Addr.mk xb1 (5 : Nat) none)] [Value.string (ByteArray.mk #[]), iv 0, iv 0, iv 0, iv 0, Value.bool false] [2] [A] Go.Proofs.Try.func25 (by kernel_rfl) (Xg.cells_cons (b := xb1) (off := 0) 1 rfl (by kernel_rfl) (Xg.cells_cons (b := xb1) (off := 1) 1 rfl (by kernel_rfl) (Xg.cells_cons (b := xb1) (off := 2) 1 rfl (by kernel_rfl) (Xg.cells_cons (b := xb1) (off := 3) 1 rfl (by kernel_rfl) (Xg.cells_cons (b := xb1) (off := 4) 1 rfl (by kernel_rfl) (Xg.cells_cons (b := xb1) (off := 5) 1 rfl (by kernel_rfl) Xg.cells_nil)))))) (by kernel_rfl) (by kernel_rfl) ?_
        exact ⟨by kernel_rfl, by kernel_rfl⟩)
  obtain ⟨h0, h0b⟩ : 32768 ≤ n ∧ n ≤ 2097152 := by omega
  clear h0'
  have hb3 := isB_get hB (i := 333) (by omega)
  have hb4 := isB_get hB (i := 323) (by omega)
  have hb7 := isB_get hB (i := 327) (by omega)
  have hb8 := isB_get hB (i := 328) (by omega)
  have hb9 := isB_get hB (i := 329) (by omega)
  have hsm := rsum_d A a n c B hn (by omega) hm2 (fun i hi => isB_get hB (by omega)) hR
  have hck : chk B = (if mkdB B = false then (hd0, (42 : Int))
    else if (231 - hsum B 25) % 256 ≠ B.getD 333 0 then (hd0, 43)
    else if B.getD 323 0 = 192 then (hd0, 44)
    else match kdOf (B.getD 327 0) with
      | none => (hd0, 45)
      | some k => if 6 < B.getD 328 0 ∨ k.bk < bnk (B.getD 328 0) ∨ bnk (B.getD 328 0) * 16384 ≠ B.length then (hd0, 46)
        else if B.getD 329 0 ∉ k.cl then (hd0, 47)
        else (hdB B k, 0)) := by
    unfold chk; rw [if_neg (by omega)]; rfl
  have hno := mkdB_f B
  have hyes : ∀ i, (∀ k, k < i → B.getD (260 + k) 0 = mkI k) → i = 48 → mkdB B = true := fun i h e => (mkdB_t B).2 fun k hk => h k (by omega)
  (focus
    refine Xg.spec_of Go.Proofs.Try.func25 rfl Go.Proofs.Try.ntmps25 fun g F => ?_)
  (focus
    refine Xg.at_seq ?_
    refine Xg.at_region ?_
    refine Xg.ops_op (by kernel_rfl) (Xg.opx_new 6 [Value.string (ByteArray.mk #[]), iv 0, iv 0, iv 0, iv 0, Value.bool false] (by kernel_rfl) (by kernel_rfl) fun xb1 => ?_)
    refine Xg.ops_op (by kernel_rfl) (Xg.opx_pure ((iv 0)) rfl (fun _ => by kernel_rfl) ?_)
    refine Xg.ops_nil ?_
    refine Xg.at_seq ?_
    refine Xg.at_region ?_
    refine Xg.ops_op (by kernel_rfl) (Xg.opx_new 6 [Value.string (ByteArray.mk #[]), iv 0, iv 0, iv 0, iv 0, Value.bool false] (by kernel_rfl) (by kernel_rfl) fun xb2 => ?_)
    refine Xg.ops_nil ?_
    refine Xg.at_seq ?_
    refine Xg.at_seq ?_
    refine Xg.at_region ?_
    refine Xg.ops_op (by kernel_rfl) (Xg.opx_pure ((Value.slice a n c)) rfl (fun _ => by kernel_rfl) ?_)
    refine Xg.ops_op (by kernel_rfl) (Xg.opx_pure ((iv (↑n : Int))) rfl (fun _ => by kernel_rfl) ?_)
    refine Xg.ops_op (by kernel_rfl) (Xg.opx_pure (.bool (decide ((((↑n : Int)) : Int) < ((32768 : Int))))) rfl (fun _ => by kernel_rfl) ?_)
    refine Xg.ops_op (by kernel_rfl) (Xg.opx_pure ((Value.bool (decide ((↑n : Int) < (32768 : Int))))) rfl (fun _ => by kernel_rfl) ?_)
    refine Xg.ops_flag (j := 21) (c := (decide ((↑n : Int) < (32768 : Int)))) (by kernel_rfl) (fun xh1 => absurd (of_decide_eq_true xh1) (by omega)) (fun _ => ?_)
    refine Xg.ops_op (by kernel_rfl) (Xg.opx_pure ((Value.slice a n c)) rfl (fun _ => by kernel_rfl) ?_)
    refine Xg.ops_op (by kernel_rfl) (Xg.opx_pure ((iv (↑n : Int))) rfl (fun _ => by kernel_rfl) ?_)
    refine Xg.ops_op (by kernel_rfl) (Xg.opx_pure (.bool (decide ((((↑n : Int)) : Int) > ((2097152 : Int))))) rfl (fun _ => by kernel_rfl) ?_)
    refine Xg.ops_flag (j := 24) (c := (decide ((↑n : Int) > (2097152 : Int)))) (by kernel_rfl) (fun xh1 => absurd (of_decide_eq_true xh1) (by omega)) (fun _ => ?_)
    refine Xg.ops_op (by kernel_rfl) (Xg.opx_pure ((Value.bool false)) rfl (fun _ => by kernel_rfl) ?_)
    refine Xg.ops_nil ?_
    refine Xg.at_false (t := false) (by kernel_rfl) rfl ?_
    refine Xg.at_skip ?_
    refine Xg.at_seq ?_
    refine Xg.at_seq ?_
    refine Xg.at_region ?_
    refine Xg.ops_op (by kernel_rfl) (Xg.opx_pure ((iv 0)) rfl (fun _ => by kernel_rfl) ?_)
    refine Xg.ops_nil ?_
    refine Xg.at_block ?_)
  (focus
    refine Xg.at_rounds_inv (α := (Nat) × (Nat → Value)) (fun x => ((fun i => i ≤ 48 ∧ ∀ k, k < i → B.getD (260 + k) 0 = mkI k) : (Nat) → Prop) x.1) (fun x => ((fun i => 48 - i) : (Nat) → Nat) x.1) (fun x => Xg.headT [Value.slice a n c, tu, pv xb1 0, iv 0, pv xb2 0, iv 0, tu, tu, tu, tu, tu, tu, tu, tu, tu, tu, tu, tu, Value.slice a n c, iv (↑n : Int), Value.bool (decide ((↑n : Int) < (32768 : Int))), Value.bool false, Value.slice a n c, iv (↑n : Int), Value.bool false, Value.bool false, tu, tu, tu, tu, tu, tu, tu, tu, tu, tu, tu, tu, tu, tu, tu, tu, tu, tu, tu, tu, tu, tu, tu, tu, tu, tu, tu, tu, tu, tu, tu, tu, tu, tu, tu, tu, tu, tu, tu, tu, tu, tu, tu, tu, tu, tu, tu, tu, tu, tu, tu, tu, tu, tu, tu, tu, tu, tu, tu, tu, tu, tu, tu, tu, tu, tu, tu, tu, tu, tu, tu, tu, tu, tu, tu, tu, tu, tu, tu, tu, tu, tu, tu, tu, tu, tu, tu, tu, tu, tu, tu, tu, tu, tu, tu, tu, tu, tu, tu, tu, tu, tu, tu, tu, tu, tu, tu, tu, tu, tu, tu, tu, tu, tu, tu, tu, tu, tu, tu, tu, tu, tu, tu, tu, tu, tu, tu, tu] [3, 27, 28, 29, 30, 31, 32, 33, 34, 35, 36, 37, 38, 39] (((fun i => [(5, .int .i64 (i : Nat))]) : (Nat) → List (Nat × Go.Value)) x.1) x.2) (fun x => ((fun i => [row xb2 34 [.string (St []), .int .i64 0, .int .i64 0, .int .i64 0, .int .i64 0, .bool false], row xb1 34 [.string (St []), .int .i64 0, .int .i64 0, .int .i64 0, .int .i64 0, .bool false], A]) : (Nat) → List Go.Sl.HP) x.1) ((0), fun j9 => ([Value.slice a n c, tu, pv xb1 0, iv 0, pv xb2 0, iv 0, tu, tu, tu, tu, tu, tu, tu, tu, tu, tu, tu, tu, Value.slice a n c, iv (↑n : Int), Value.bool (decide ((↑n : Int) < (32768 : Int))), Value.bool false, Value.slice a n c, iv (↑n : Int), Value.bool false, Value.bool false, tu, tu, tu, tu, tu, tu, tu, tu, tu, tu, tu, tu, tu, tu, tu, tu, tu, tu, tu, tu, tu, tu, tu, tu, tu, tu, tu, tu, tu, tu, tu, tu, tu, tu, tu, tu, tu, tu, tu, tu, tu, tu, tu, tu, tu, tu, tu, tu, tu, tu, tu, tu, tu, tu, tu, tu, tu, tu, tu, tu, tu, tu, tu, tu, tu, tu, tu, tu, tu, tu, tu, tu, tu, tu, tu, tu, tu, tu, tu, tu, tu, tu, tu, tu, tu, tu, tu, tu, tu, tu, tu, tu, tu, tu, tu, tu, tu, tu, tu, tu, tu, tu, tu, tu, tu, tu, tu, tu, tu, tu, tu, tu, tu, tu, tu, tu, tu, tu, tu, tu, tu, tu, tu, tu, tu, tu, tu, tu] : List Value).getD j9 undef) (by kernel_rfl) (by kernel_rfl) ?_ ?_)
  · exact ⟨Nat.zero_le _, fun k hk => absurd hk (Nat.not_lt_zero _)⟩
  rintro ⟨i, J0⟩ hI ih
  obtain ⟨hi, hne⟩ := hI
  dsimp only at hi hne
  (focus
    refine Xg.At.same (T' := [Value.slice a n c, tu, pv xb1 0, J0 3, pv xb2 0, iv (↑i : Int), tu, tu, tu, tu, tu, tu, tu, tu, tu, tu, tu, tu, Value.slice a n c, iv (↑n : Int), Value.bool (decide ((↑n : Int) < (32768 : Int))), Value.bool false, Value.slice a n c, iv (↑n : Int), Value.bool false, Value.bool false, tu, J0 27, J0 28, J0 29, J0 30, J0 31, J0 32, J0 33, J0 34, J0 35, J0 36, J0 37, J0 38, J0 39, tu, tu, tu, tu, tu, tu, tu, tu, tu, tu, tu, tu, tu, tu, tu, tu, tu, tu, tu, tu, tu, tu, tu, tu, tu, tu, tu, tu, tu, tu, tu, tu, tu, tu, tu, tu, tu, tu, tu, tu, tu, tu, tu, tu, tu, tu, tu, tu, tu, tu, tu, tu, tu, tu, tu, tu, tu, tu, tu, tu, tu, tu, tu, tu, tu, tu, tu, tu, tu, tu, tu, tu, tu, tu, tu, tu, tu, tu, tu, tu, tu, tu, tu, tu, tu, tu, tu, tu, tu, tu, tu, tu, tu, tu, tu, tu, tu, tu, tu, tu, tu, tu, tu, tu, tu, tu, tu, tu, tu, tu, tu, tu, tu, tu]) (L' := [row xb2 (34 : TypeId) [Value.string (St []), iv 0, iv 0, iv 0, iv 0, Value.bool false], row xb1 (34 : TypeId) [Value.string (St []), iv 0, iv 0, iv 0, iv 0, Value.bool false], A]) (by kernel_rfl) rfl ?_)
  by_cases hlt : i < 48
  · have e2 : ((260 : Int) + (i : Int)).toNat = 260 + i := by omega
    have hmk := rmark_d i hlt
    have hmko := mkI_ok i
    by_cases he : B.getD ((260 : Int) + (i : Int)).toNat 0 = mkI i
    · (focus
        refine Xg.at_seq ?_
        refine Xg.at_seq ?_
        refine Xg.at_region ?_
        refine Xg.ops_op (by kernel_rfl) (Xg.opx_pure ((iv (↑i : Int))) rfl (fun _ => by kernel_rfl) ?_)
        refine Xg.ops_op (by kernel_rfl) (Xg.opx_pure (.bool (decide ((((↑i : Int)) : Int) < ((48 : Int))))) rfl (fun _ => by kernel_rfl) ?_)
        refine Xg.ops_nil ?_
        refine Xg.at_true (t := decide (((↑i : Int) < (48 : Int)))) (by kernel_rfl) (decide_eq_true (by omega)) ?_
        refine Xg.at_skip ?_
        refine Xg.at_seq ?_
        refine Xg.at_block ?_
        refine Xg.at_seq ?_
        refine Xg.at_draw [6] [(3, [0, 1, 2, 3, 5, 6], (RdIs (1 : Nat) (Value.slice a n c) n (List.map (Value.int IntKind.u8) B))), (4, [0, 1, 2, 3, 4, 5, 6], (RdIs (1 : Nat) (Value.slice a n c) n (List.map (Value.int IntKind.u8) B)))] (by kernel_rfl) ?_
        refine Xg.any_pure ((Value.slice a n c)) 0 (by kernel_rfl) rfl (by kernel_rfl) (by kernel_rfl) (by kernel_rfl) (by kernel_rfl) rfl (fun _ => by kernel_rfl) ?_
        refine Xg.any_pure ((iv (↑i : Int))) 1 (by kernel_rfl) rfl (by kernel_rfl) (by kernel_rfl) (by kernel_rfl) (by kernel_rfl) rfl (fun _ => by kernel_rfl) ?_
        refine Xg.any_int .i64 (IntKind.wrap .i64 (((260 : Int) + (↑i : Int)))) 2 (by kernel_rfl) rfl (by kernel_rfl) (by kernel_rfl) (by kernel_rfl) (by kernel_rfl) rfl (fun _ => by kernel_rfl) (Xg.wrap_i64_in (by omega)) ?_
        refine Xg.any_reads (.pointer (some (Addr.mk (Xg.blk a) (offA a + ((260 : Int) + (↑i : Int)).toNat) none))) 3 0 (by kernel_rfl) rfl (by kernel_rfl) (by kernel_rfl) (by kernel_rfl) (by kernel_rfl) rfl rfl (by kernel_rfl) (Xg.rd_now 2 hR (by kernel_rfl)) (Xg.run_ix_rd (elem := 5) (kd := .i64) (e := ((260 : Int) + (↑i : Int))) 1 (((260 : Int) + (↑i : Int)).toNat) (offA a + ((260 : Int) + (↑i : Int)).toNat) (by kernel_rfl) (by kernel_rfl) (by kernel_rfl) (by kernel_rfl) (by omega) (by omega) (by simp only [List.length_map]; omega) (by omega)) ?_
        refine Xg.any_reads (uv (B.getD ((260 : Int) + (↑i : Int)).toNat (0 : Int))) 4 1 (by kernel_rfl) rfl (by kernel_rfl) (by kernel_rfl) (by kernel_rfl) (by kernel_rfl) rfl rfl (by kernel_rfl) (Xg.rd_now 2 hR (by kernel_rfl)) (Xg.run_load_rd (off0 := (offA a + ((260 : Int) + (↑i : Int)).toNat)) (((260 : Int) + (↑i : Int)).toNat) (by kernel_rfl) (by omega) (Xg.get_ints (by omega)) (by kernel_rfl)) ?_
        refine Xg.any_pure ((iv (↑i : Int))) 5 (by kernel_rfl) rfl (by kernel_rfl) (by kernel_rfl) (by kernel_rfl) (by kernel_rfl) rfl (fun _ => by kernel_rfl) ?_
        refine Xg.any_each [6] (by kernel_rfl) rfl ⟨?_, trivial⟩
        refine Xg.comes_act rfl (by kernel_rfl) (by kernel_rfl) (Xg.opx_call1' [] [row xb2 (34 : TypeId) [Value.string (St []), iv 0, iv 0, iv 0, iv 0, Value.bool false], row xb1 (34 : TypeId) [Value.string (St []), iv 0, iv 0, iv 0, iv 0, Value.bool false], A] (fun _ => by kernel_rfl) (@hmk ) (by kernel_rfl) (by kernel_rfl) (by kernel_rfl) ?_)
        refine Xg.acts (Xg.owes_rd 2 hR (by kernel_rfl) (Xg.owes_rd 2 hR (by kernel_rfl) Xg.owes_nil)) ?_
        refine Xg.any_pure (.bool (!decide (((B.getD ((260 : Int) + (↑i : Int)).toNat (0 : Int)) : Int) = (mkI i)))) 7 (by kernel_rfl) rfl (by kernel_rfl) (by kernel_rfl) (by kernel_rfl) (by kernel_rfl) rfl (fun _ => by kernel_rfl) ?_
        refine Xg.any_nil (by kernel_rfl) ?_
        refine Xg.at_false (t := !decide ((B.getD ((260 : Int) + (↑i : Int)).toNat (0 : Int) = mkI i))) (by kernel_rfl) (by rw [decide_eq_true (by omega)]; rfl) ?_
        refine Xg.at_skip ?_
        refine Xg.at_inBlock ?_
        refine Xg.at_region ?_
        refine Xg.ops_op (by kernel_rfl) (Xg.opx_pure ((iv (↑i : Int))) rfl (fun _ => by kernel_rfl) ?_)
        refine Xg.ops_op (by kernel_rfl) (Xg.opx_int .i64 (IntKind.wrap .i64 (((↑i : Int) + (1 : Int)))) rfl (fun _ => by kernel_rfl) (Xg.wrap_i64_in (by omega)) ?_)
        refine Xg.ops_op (by kernel_rfl) (Xg.opx_pure ((iv ((↑i : Int) + (1 : Int)))) rfl (fun _ => by kernel_rfl) ?_)
        refine Xg.ops_nil ?_
        refine Xg.at_inLoop ?_)
      (focus
        refine Xg.at_keep [0, 1, 2] (by kernel_rfl) ?_
        refine Xs.same ?_ (fun J9 => ih (((i + 1)), J9) ?_ ?_) (by kernel_rfl))
      · rfl
      · refine ⟨hlt, fun k hk => ?_⟩
        by_cases e : k = i
        · subst e; rw [e2] at he; exact he
        · have hk : k < i + 1 := hk
          exact hne k (by omega)
      · show 48 - (i + 1) < 48 - i; omega
    · have hd := hno i hlt (by rw [e2] at he; exact he)
      rw [if_pos hd] at hck
      rw [hck]
      (focus
        refine Xg.at_seq ?_
        refine Xg.at_seq ?_
        refine Xg.at_region ?_
        refine Xg.ops_op (by kernel_rfl) (Xg.opx_pure ((iv (↑i : Int))) rfl (fun _ => by kernel_rfl) ?_)
        refine Xg.ops_op (by kernel_rfl) (Xg.opx_pure (.bool (decide ((((↑i : Int)) : Int) < ((48 : Int))))) rfl (fun _ => by kernel_rfl) ?_)
        refine Xg.ops_nil ?_
        refine Xg.at_true (t := decide (((↑i : Int) < (48 : Int)))) (by kernel_rfl) (decide_eq_true (by omega)) ?_
        refine Xg.at_skip ?_
        refine Xg.at_seq ?_
        refine Xg.at_block ?_
        refine Xg.at_seq ?_
        refine Xg.at_draw [6] [(3, [0, 1, 2, 3, 5, 6], (RdIs (1 : Nat) (Value.slice a n c) n (List.map (Value.int IntKind.u8) B))), (4, [0, 1, 2, 3, 4, 5, 6], (RdIs (1 : Nat) (Value.slice a n c) n (List.map (Value.int IntKind.u8) B)))] (by kernel_rfl) ?_
        refine Xg.any_pure ((Value.slice a n c)) 0 (by kernel_rfl) rfl (by kernel_rfl) (by kernel_rfl) (by kernel_rfl) (by kernel_rfl) rfl (fun _ => by kernel_rfl) ?_
        refine Xg.any_pure ((iv (↑i : Int))) 1 (by kernel_rfl) rfl (by kernel_rfl) (by kernel_rfl) (by kernel_rfl) (by kernel_rfl) rfl (fun _ => by kernel_rfl) ?_
        refine Xg.any_int .i64 (IntKind.wrap .i64 (((260 : Int) + (↑i : Int)))) 2 (by kernel_rfl) rfl (by kernel_rfl) (by kernel_rfl) (by kernel_rfl) (by kernel_rfl) rfl (fun _ => by kernel_rfl) (Xg.wrap_i64_in (by omega)) ?_
        refine Xg.any_reads (.pointer (some (Addr.mk (Xg.blk a) (offA a + ((260 : Int) + (↑i : Int)).toNat) none))) 3 0 (by kernel_rfl) rfl (by kernel_rfl) (by kernel_rfl) (by kernel_rfl) (by kernel_rfl) rfl rfl (by kernel_rfl) (Xg.rd_now 2 hR (by kernel_rfl)) (Xg.run_ix_rd (elem := 5) (kd := .i64) (e := ((260 : Int) + (↑i : Int))) 1 (((260 : Int) + (↑i : Int)).toNat) (offA a + ((260 : Int) + (↑i : Int)).toNat) (by kernel_rfl) (by kernel_rfl) (by kernel_rfl) (by kernel_rfl) (by omega) (by omega) (by simp only [List.length_map]; omega) (by omega)) ?_
        refine Xg.any_reads (uv (B.getD ((260 : Int) + (↑i : Int)).toNat (0 : Int))) 4 1 (by kernel_rfl) rfl (by kernel_rfl) (by kernel_rfl) (by kernel_rfl) (by kernel_rfl) rfl rfl (by kernel_rfl) (Xg.rd_now 2 hR (by kernel_rfl)) (Xg.run_load_rd (off0 := (offA a + ((260 : Int) + (↑i : Int)).toNat)) (((260 : Int) + (↑i : Int)).toNat) (by kernel_rfl) (by omega) (Xg.get_ints (by omega)) (by kernel_rfl)) ?_
        refine Xg.any_pure ((iv (↑i : Int))) 5 (by kernel_rfl) rfl (by kernel_rfl) (by kernel_rfl) (by kernel_rfl) (by kernel_rfl) rfl (fun _ => by kernel_rfl) ?_
        refine Xg.any_each [6] (by kernel_rfl) rfl ⟨?_, trivial⟩
        refine Xg.comes_act rfl (by kernel_rfl) (by kernel_rfl) (Xg.opx_call1' [] [row xb2 (34 : TypeId) [Value.string (St []), iv 0, iv 0, iv 0, iv 0, Value.bool false], row xb1 (34 : TypeId) [Value.string (St []), iv 0, iv 0, iv 0, iv 0, Value.bool false], A] (fun _ => by kernel_rfl) (@hmk ) (by kernel_rfl) (by kernel_rfl) (by kernel_rfl) ?_)
        refine Xg.acts (Xg.owes_rd 2 hR (by kernel_rfl) (Xg.owes_rd 2 hR (by kernel_rfl) Xg.owes_nil)) ?_
        refine Xg.any_pure (.bool (!decide (((B.getD ((260 : Int) + (↑i : Int)).toNat (0 : Int)) : Int) = (mkI i)))) 7 (by kernel_rfl) rfl (by kernel_rfl) (by kernel_rfl) (by kernel_rfl) (by kernel_rfl) rfl (fun _ => by kernel_rfl) ?_
        refine Xg.any_nil (by kernel_rfl) ?_
        refine Xg.at_true (t := !decide ((B.getD ((260 : Int) + (↑i : Int)).toNat (0 : Int) = mkI i))) (by kernel_rfl) (by rw [decide_eq_false (by omega)]; rfl) ?_
        refine Xg.at_seq ?_
        refine Xg.at_region ?_
        refine Xg.ops_op (by kernel_rfl) (Xg.opx_loadn (off := 0) 6 0 [Value.string (St []), iv 0, iv 0, iv 0, iv 0, Value.bool false] (by kernel_rfl) rfl (by kernel_rfl) rfl (Xg.cells_at (by kernel_rfl)) (by kernel_rfl) ?_)
        refine Xg.ops_op (by kernel_rfl) (Xg.opx_storen 6 (off := 0) 1 [Value.string (St []), iv 0, iv 0, iv 0, iv 0, Value.bool false] (by kernel_rfl) rfl (by kernel_rfl) (by kernel_rfl) rfl (by kernel_rfl) (Nat.le_of_ble_eq_true (by kernel_rfl)) ?_)
        refine Xg.ops_op (by kernel_rfl) (Xg.opx_pure ((iv 42)) rfl (fun _ => by kernel_rfl) ?_)
        refine Xg.ops_nil ?_
        refine Xg.at_ret_feed (v := (Value.tuple #[Value.agg #[Value.string (St []), iv 0, iv 0, iv 0, iv 0, Value.bool false], iv 42])) [(Addr.mk xb1 (0 : Nat) none), (Addr.mk xb1 (1 : Nat) none), (Addr.mk xb1 (2 : Nat) none), (Addr.mk xb1 (3 : Nat) none), (Addr.mk xb1 (4 : Nat) none), (Addr.mk xb1 (5 : Nat) none)] [Value.string (St []), iv 0, iv 0, iv 0, iv 0, Value.bool false] [2] [A] Go.Proofs.Try.func25 (by kernel_rfl) (Xg.cells_cons (b := xb1) (off := 0) 1 rfl (by kernel_rfl) (Xg.cells_cons (b := xb1) (off := 1) 1 rfl (by kernel_rfl) (Xg.cells_cons (b := xb1) (off := 2) 1 rfl (by kernel_rfl) (Xg.cells_cons (b := xb1) (off := 3) 1 rfl (by kernel_rfl) (Xg.cells_cons (b := xb1) (off := 4) 1 rfl (by kernel_rfl) (Xg.cells_cons (b := xb1) (off := 5) 1 rfl (by kernel_rfl) Xg.cells_nil)))))) (by kernel_rfl) (by kernel_rfl) ?_
        exact ⟨by kernel_rfl, by kernel_rfl⟩)
  clear ih
  have hm1 := hyes i hne (by omega)
  rw [if_neg (by rw [hm1]; decide)] at hck
  clear hyes hno hne
  by_cases h2 : (231 - hsum B 25) % 256 ≠ B.getD 333 0
  · rw [if_pos h2] at hck
    rw [hck]
    (focus
      refine Xg.at_seq ?_
      refine Xg.at_seq ?_
      refine Xg.at_region ?_
      refine Xg.ops_op (by kernel_rfl) (Xg.opx_pure ((iv (↑i : Int))) rfl (fun _ => by kernel_rfl) ?_)
      refine Xg.ops_op (by kernel_rfl) (Xg.opx_pure (.bool (decide ((((↑i : Int)) : Int) < ((48 : Int))))) rfl (fun _ => by kernel_rfl) ?_)
      refine Xg.ops_nil ?_
      refine Xg.at_false (t := decide (((↑i : Int) < (48 : Int)))) (by kernel_rfl) (decide_eq_false (by omega)) ?_
      refine Xg.at_exit rfl ?_
      refine Xg.at_seq ?_
      refine Xg.at_region ?_
      refine Xg.ops_op (by kernel_rfl) (Xg.opx_pure ((Value.slice a n c)) rfl (fun _ => by kernel_rfl) ?_)
      refine Xg.ops_op (by kernel_rfl) (Xg.opx_call1' [2] [A, row xb2 (34 : TypeId) [Value.string (St []), iv 0, iv 0, iv 0, iv 0, Value.bool false], row xb1 (34 : TypeId) [Value.string (St []), iv 0, iv 0, iv 0, iv 0, Value.bool false]] (fun _ => by kernel_rfl) (@hsm ) (by kernel_rfl) (by kernel_rfl) (by kernel_rfl) ?_)
      refine Xg.ops_op (by kernel_rfl) (Xg.opx_pure ((uv (((231 : Int) - hsum B (25 : Nat)) % (256 : Int)))) rfl (fun _ => by kernel_rfl) ?_)
      refine Xg.ops_nil ?_
      refine Xg.at_seq ?_
      refine Xg.at_seq ?_
      refine Xg.at_region ?_
      refine Xg.ops_op (by kernel_rfl) (Xg.opx_pure ((Value.slice a n c)) rfl (fun _ => by kernel_rfl) ?_)
      refine Xg.ops_op (by kernel_rfl) (Xg.opx_rd 0 (.pointer (some (Addr.mk (Xg.blk a) (offA a + (333 : Nat)) none))) rfl hR (by kernel_rfl) (Xg.run_ix_rd (elem := 5) (kd := .i64) (e := ((333 : Int))) 1 ((333 : Nat)) (offA a + (333 : Nat)) (by kernel_rfl) (by kernel_rfl) (by kernel_rfl) (by kernel_rfl) rfl (by omega) (by simp only [List.length_map]; omega) (by omega)) ?_)
      refine Xg.ops_op (by kernel_rfl) (Xg.opx_rd 0 (uv (B.getD (333 : Nat) (0 : Int))) rfl hR (by kernel_rfl) (Xg.run_load_rd (off0 := (offA a + (333 : Nat))) ((333 : Nat)) (by kernel_rfl) (by omega) (Xg.get_ints (by omega)) (by kernel_rfl)) ?_)
      refine Xg.ops_op (by kernel_rfl) (Xg.opx_pure ((uv (((231 : Int) - hsum B (25 : Nat)) % (256 : Int)))) rfl (fun _ => by kernel_rfl) ?_)
      refine Xg.ops_op (by kernel_rfl) (Xg.opx_pure (.bool (!decide (((B.getD (333 : Nat) (0 : Int)) : Int) = (((231 : Int) - hsum B (25 : Nat)) % (256 : Int))))) rfl (fun _ => by kernel_rfl) ?_)
      refine Xg.ops_nil ?_
      refine Xg.at_true (t := !decide ((B.getD (333 : Nat) (0 : Int) = ((231 : Int) - hsum B (25 : Nat)) % (256 : Int)))) (by kernel_rfl) (by rw [decide_eq_false (by omega)]; rfl) ?_
      refine Xg.at_seq ?_
      refine Xg.at_region ?_
      refine Xg.ops_op (by kernel_rfl) (Xg.opx_loadn (off := 0) 6 1 [Value.string (St []), iv 0, iv 0, iv 0, iv 0, Value.bool false] (by kernel_rfl) rfl (by kernel_rfl) rfl (Xg.cells_at (by kernel_rfl)) (by kernel_rfl) ?_)
      refine Xg.ops_op (by kernel_rfl) (Xg.opx_storen 6 (off := 0) 2 [Value.string (St []), iv 0, iv 0, iv 0, iv 0, Value.bool false] (by kernel_rfl) rfl (by kernel_rfl) (by kernel_rfl) rfl (by kernel_rfl) (Nat.le_of_ble_eq_true (by kernel_rfl)) ?_)
      refine Xg.ops_op (by kernel_rfl) (Xg.opx_pure ((iv 43)) rfl (fun _ => by kernel_rfl) ?_)
      refine Xg.ops_nil ?_
      refine Xg.at_ret_feed (v := (Value.tuple #[Value.agg #[Value.string (St []), iv 0, iv 0, iv 0, iv 0, Value.bool false], iv 43])) [(Addr.mk xb1 (0 : Nat) none), (Addr.mk xb1 (1 : Nat) none), (Addr.mk xb1 (2 : Nat) none), (Addr.mk xb1 (3 : Nat) none), (Addr.mk xb1 (4 : Nat) none), (Addr.mk xb1 (5 : Nat) none)] [Value.string (St []), iv 0, iv 0, iv 0, iv 0, Value.bool false] [0] [A] Go.Proofs.Try.func25 (by kernel_rfl) (Xg.cells_cons (b := xb1) (off := 0) 2 rfl (by kernel_rfl) (Xg.cells_cons (b := xb1) (off := 1) 2 rfl (by kernel_rfl) (Xg.cells_cons (b := xb1) (off := 2) 2 rfl (by kernel_rfl) (Xg.cells_cons (b := xb1) (off := 3) 2 rfl (by kernel_rfl) (Xg.cells_cons (b := xb1) (off := 4) 2 rfl (by kernel_rfl) (Xg.cells_cons (b := xb1) (off := 5) 2 rfl (by kernel_rfl) Xg.cells_nil)))))) (by kernel_rfl) (by kernel_rfl) ?_
      exact ⟨by kernel_rfl, by kernel_rfl⟩)
  rw [if_neg h2] at hck
  by_cases h3 : B.getD 323 0 = 192
  · rw [if_pos h3] at hck
    rw [hck]
    (focus
      refine Xg.at_seq ?_
      refine Xg.at_seq ?_
      refine Xg.at_region ?_
      refine Xg.ops_op (by kernel_rfl) (Xg.opx_pure ((iv (↑i : Int))) rfl (fun _ => by kernel_rfl) ?_)
      refine Xg.ops_op (by kernel_rfl) (Xg.opx_pure (.bool (decide ((((↑i : Int)) : Int) < ((48 : Int))))) rfl (fun _ => by kernel_rfl) ?_)
      refine Xg.ops_nil ?_
      refine Xg.at_false (t := decide (((↑i : Int) < (48 : Int)))) (by kernel_rfl) (decide_eq_false (by omega)) ?_
      refine Xg.at_exit rfl ?_
      refine Xg.at_seq ?_
      refine Xg.at_region ?_
      refine Xg.ops_op (by kernel_rfl) (Xg.opx_pure ((Value.slice a n c)) rfl (fun _ => by kernel_rfl) ?_)
      refine Xg.ops_op (by kernel_rfl) (Xg.opx_call1' [2] [A, row xb2 (34 : TypeId) [Value.string (St []), iv 0, iv 0, iv 0, iv 0, Value.bool false], row xb1 (34 : TypeId) [Value.string (St []), iv 0, iv 0, iv 0, iv 0, Value.bool false]] (fun _ => by kernel_rfl) (@hsm ) (by kernel_rfl) (by kernel_rfl) (by kernel_rfl) ?_)
      refine Xg.ops_op (by kernel_rfl) (Xg.opx_pure ((uv (((231 : Int) - hsum B (25 : Nat)) % (256 : Int)))) rfl (fun _ => by kernel_rfl) ?_)
      refine Xg.ops_nil ?_
      refine Xg.at_seq ?_
      refine Xg.at_seq ?_
      refine Xg.at_region ?_
      refine Xg.ops_op (by kernel_rfl) (Xg.opx_pure ((Value.slice a n c)) rfl (fun _ => by kernel_rfl) ?_)
      refine Xg.ops_op (by kernel_rfl) (Xg.opx_rd 0 (.pointer (some (Addr.mk (Xg.blk a) (offA a + (333 : Nat)) none))) rfl hR (by kernel_rfl) (Xg.run_ix_rd (elem := 5) (kd := .i64) (e := ((333 : Int))) 1 ((333 : Nat)) (offA a + (333 : Nat)) (by kernel_rfl) (by kernel_rfl) (by kernel_rfl) (by kernel_rfl) rfl (by omega) (by simp only [List.length_map]; omega) (by omega)) ?_)
      refine Xg.ops_op (by kernel_rfl) (Xg.opx_rd 0 (uv (B.getD (333 : Nat) (0 : Int))) rfl hR (by kernel_rfl) (Xg.run_load_rd (off0 := (offA a + (333 : Nat))) ((333 : Nat)) (by kernel_rfl) (by omega) (Xg.get_ints (by omega)) (by kernel_rfl)) ?_)
      refine Xg.ops_op (by kernel_rfl) (Xg.opx_pure ((uv (((231 : Int) - hsum B (25 : Nat)) % (256 : Int)))) rfl (fun _ => by kernel_rfl) ?_)
      refine Xg.ops_op (by kernel_rfl) (Xg.opx_pure (.bool (!decide (((B.getD (333 : Nat) (0 : Int)) : Int) = (((231 : Int) - hsum B (25 : Nat)) % (256 : Int))))) rfl (fun _ => by kernel_rfl) ?_)
      refine Xg.ops_nil ?_
      refine Xg.at_false (t := !decide ((B.getD (333 : Nat) (0 : Int) = ((231 : Int) - hsum B (25 : Nat)) % (256 : Int)))) (by kernel_rfl) (by rw [decide_eq_true (by omega)]; rfl) ?_
      refine Xg.at_skip ?_
      refine Xg.at_seq ?_
      refine Xg.at_seq ?_
      refine Xg.at_region ?_
      refine Xg.ops_op (by kernel_rfl) (Xg.opx_pure ((Value.slice a n c)) rfl (fun _ => by kernel_rfl) ?_)
      refine Xg.ops_op (by kernel_rfl) (Xg.opx_rd 0 (.pointer (some (Addr.mk (Xg.blk a) (offA a + (323 : Nat)) none))) rfl hR (by kernel_rfl) (Xg.run_ix_rd (elem := 5) (kd := .i64) (e := ((323 : Int))) 1 ((323 : Nat)) (offA a + (323 : Nat)) (by kernel_rfl) (by kernel_rfl) (by kernel_rfl) (by kernel_rfl) rfl (by omega) (by simp only [List.length_map]; omega) (by omega)) ?_)
      refine Xg.ops_op (by kernel_rfl) (Xg.opx_rd 0 (uv (B.getD (323 : Nat) (0 : Int))) rfl hR (by kernel_rfl) (Xg.run_load_rd (off0 := (offA a + (323 : Nat))) ((323 : Nat)) (by kernel_rfl) (by omega) (Xg.get_ints (by omega)) (by kernel_rfl)) ?_)
      refine Xg.ops_op (by kernel_rfl) (Xg.opx_pure (.bool (decide (((B.getD (323 : Nat) (0 : Int)) : Int) = ((192 : Int))))) rfl (fun _ => by kernel_rfl) ?_)
      refine Xg.ops_nil ?_
      refine Xg.at_true (t := decide ((B.getD (323 : Nat) (0 : Int) = (192 : Int)))) (by kernel_rfl) (decide_eq_true (by omega)) ?_
      refine Xg.at_seq ?_
      refine Xg.at_region ?_
      refine Xg.ops_op (by kernel_rfl) (Xg.opx_loadn (off := 0) 6 1 [Value.string (St []), iv 0, iv 0, iv 0, iv 0, Value.bool false] (by kernel_rfl) rfl (by kernel_rfl) rfl (Xg.cells_at (by kernel_rfl)) (by kernel_rfl) ?_)
      refine Xg.ops_op (by kernel_rfl) (Xg.opx_storen 6 (off := 0) 2 [Value.string (St []), iv 0, iv 0, iv 0, iv 0, Value.bool false] (by kernel_rfl) rfl (by kernel_rfl) (by kernel_rfl) rfl (by kernel_rfl) (Nat.le_of_ble_eq_true (by kernel_rfl)) ?_)
      refine Xg.ops_op (by kernel_rfl) (Xg.opx_pure ((iv 44)) rfl (fun _ => by kernel_rfl) ?_)
      refine Xg.ops_nil ?_
      refine Xg.at_ret_feed (v := (Value.tuple #[Value.agg #[Value.string (St []), iv 0, iv 0, iv 0, iv 0, Value.bool false], iv 44])) [(Addr.mk xb1 (0 : Nat) none), (Addr.mk xb1 (1 : Nat) none), (Addr.mk xb1 (2 : Nat) none), (Addr.mk xb1 (3 : Nat) none), (Addr.mk xb1 (4 : Nat) none), (Addr.mk xb1 (5 : Nat) none)] [Value.string (St []), iv 0, iv 0, iv 0, iv 0, Value.bool false] [0] [A] Go.Proofs.Try.func25 (by kernel_rfl) (Xg.cells_cons (b := xb1) (off := 0) 2 rfl (by kernel_rfl) (Xg.cells_cons (b := xb1) (off := 1) 2 rfl (by kernel_rfl) (Xg.cells_cons (b := xb1) (off := 2) 2 rfl (by kernel_rfl) (Xg.cells_cons (b := xb1) (off := 3) 2 rfl (by kernel_rfl) (Xg.cells_cons (b := xb1) (off := 4) 2 rfl (by kernel_rfl) (Xg.cells_cons (b := xb1) (off := 5) 2 rfl (by kernel_rfl) Xg.cells_nil)))))) (by kernel_rfl) (by kernel_rfl) ?_
      exact ⟨by kernel_rfl, by kernel_rfl⟩)
  rw [if_neg h3] at hck
  cases hkd : kdOf (B.getD 327 0) with
  | none =>
    rw [hkd] at hck
    dsimp only at hck
    have hk0 := rkind_no hkd hb7
    rw [hck]
    (focus
      refine Xg.at_seq ?_
      refine Xg.at_seq ?_
      refine Xg.at_region ?_
      refine Xg.ops_op (by kernel_rfl) (Xg.opx_pure ((iv (↑i : Int))) rfl (fun _ => by kernel_rfl) ?_)
      refine Xg.ops_op (by kernel_rfl) (Xg.opx_pure (.bool (decide ((((↑i : Int)) : Int) < ((48 : Int))))) rfl (fun _ => by kernel_rfl) ?_)
      refine Xg.ops_nil ?_
      refine Xg.at_false (t := decide (((↑i : Int) < (48 : Int)))) (by kernel_rfl) (decide_eq_false (by omega)) ?_
      refine Xg.at_exit rfl ?_
      refine Xg.at_seq ?_
      refine Xg.at_region ?_
      refine Xg.ops_op (by kernel_rfl) (Xg.opx_pure ((Value.slice a n c)) rfl (fun _ => by kernel_rfl) ?_)
      refine Xg.ops_op (by kernel_rfl) (Xg.opx_call1' [2] [A, row xb2 (34 : TypeId) [Value.string (St []), iv 0, iv 0, iv 0, iv 0, Value.bool false], row xb1 (34 : TypeId) [Value.string (St []), iv 0, iv 0, iv 0, iv 0, Value.bool false]] (fun _ => by kernel_rfl) (@hsm ) (by kernel_rfl) (by kernel_rfl) (by kernel_rfl) ?_)
      refine Xg.ops_op (by kernel_rfl) (Xg.opx_pure ((uv (((231 : Int) - hsum B (25 : Nat)) % (256 : Int)))) rfl (fun _ => by kernel_rfl) ?_)
      refine Xg.ops_nil ?_
      refine Xg.at_seq ?_
      refine Xg.at_seq ?_
      refine Xg.at_region ?_
      refine Xg.ops_op (by kernel_rfl) (Xg.opx_pure ((Value.slice a n c)) rfl (fun _ => by kernel_rfl) ?_)
      refine Xg.ops_op (by kernel_rfl) (Xg.opx_rd 0 (.pointer (some (Addr.mk (Xg.blk a) (offA a + (333 : Nat)) none))) rfl hR (by kernel_rfl) (Xg.run_ix_rd (elem := 5) (kd := .i64) (e := ((333 : Int))) 1 ((333 : Nat)) (offA a + (333 : Nat)) (by kernel_rfl) (by kernel_rfl) (by kernel_rfl) (by kernel_rfl) rfl (by omega) (by simp only [List.length_map]; omega) (by omega)) ?_)
      refine Xg.ops_op (by kernel_rfl) (Xg.opx_rd 0 (uv (B.getD (333 : Nat) (0 : Int))) rfl hR (by kernel_rfl) (Xg.run_load_rd (off0 := (offA a + (333 : Nat))) ((333 : Nat)) (by kernel_rfl) (by omega) (Xg.get_ints (by omega)) (by kernel_rfl)) ?_)
      refine Xg.ops_op (by kernel_rfl) (Xg.opx_pure ((uv (((231 : Int) - hsum B (25 : Nat)) % (256 : Int)))) rfl (fun _ => by kernel_rfl) ?_)
      refine Xg.ops_op (by kernel_rfl) (Xg.opx_pure (.bool (!decide (((B.getD (333 : Nat) (0 : Int)) : Int) = (((231 : Int) - hsum B (25 : Nat)) % (256 : Int))))) rfl (fun _ => by kernel_rfl) ?_)
      refine Xg.ops_nil ?_
      refine Xg.at_false (t := !decide ((B.getD (333 : Nat) (0 : Int) = ((231 : Int) - hsum B (25 : Nat)) % (256 : Int)))) (by kernel_rfl) (by rw [decide_eq_true (by omega)]; rfl) ?_
      refine Xg.at_skip ?_
      refine Xg.at_seq ?_
      refine Xg.at_seq ?_
      refine Xg.at_region ?_
      refine Xg.ops_op (by kernel_rfl) (Xg.opx_pure ((Value.slice a n c)) rfl (fun _ => by kernel_rfl) ?_)
      refine Xg.ops_op (by kernel_rfl) (Xg.opx_rd 0 (.pointer (some (Addr.mk (Xg.blk a) (offA a + (323 : Nat)) none))) rfl hR (by kernel_rfl) (Xg.run_ix_rd (elem := 5) (kd := .i64) (e := ((323 : Int))) 1 ((323 : Nat)) (offA a + (323 : Nat)) (by kernel_rfl) (by kernel_rfl) (by kernel_rfl) (by kernel_rfl) rfl (by omega) (by simp only [List.length_map]; omega) (by omega)) ?_)
      refine Xg.ops_op (by kernel_rfl) (Xg.opx_rd 0 (uv (B.getD (323 : Nat) (0 : Int))) rfl hR (by kernel_rfl) (Xg.run_load_rd (off0 := (offA a + (323 : Nat))) ((323 : Nat)) (by kernel_rfl) (by omega) (Xg.get_ints (by omega)) (by kernel_rfl)) ?_)
      refine Xg.ops_op (by kernel_rfl) (Xg.opx_pure (.bool (decide (((B.getD (323 : Nat) (0 : Int)) : Int) = ((192 : Int))))) rfl (fun _ => by kernel_rfl) ?_)
      refine Xg.ops_nil ?_
      refine Xg.at_false (t := decide ((B.getD (323 : Nat) (0 : Int) = (192 : Int)))) (by kernel_rfl) (decide_eq_false (by omega)) ?_
      refine Xg.at_skip ?_
      refine Xg.at_seq ?_
      refine Xg.at_region ?_
      refine Xg.ops_op (by kernel_rfl) (Xg.opx_pure ((Value.slice a n c)) rfl (fun _ => by kernel_rfl) ?_)
      refine Xg.ops_op (by kernel_rfl) (Xg.opx_rd 0 (.pointer (some (Addr.mk (Xg.blk a) (offA a + (327 : Nat)) none))) rfl hR (by kernel_rfl) (Xg.run_ix_rd (elem := 5) (kd := .i64) (e := ((327 : Int))) 1 ((327 : Nat)) (offA a + (327 : Nat)) (by kernel_rfl) (by kernel_rfl) (by kernel_rfl) (by kernel_rfl) rfl (by omega) (by simp only [List.length_map]; omega) (by omega)) ?_)
      refine Xg.ops_op (by kernel_rfl) (Xg.opx_rd 0 (uv (B.getD (327 : Nat) (0 : Int))) rfl hR (by kernel_rfl) (Xg.run_load_rd (off0 := (offA a + (327 : Nat))) ((327 : Nat)) (by kernel_rfl) (by omega) (Xg.get_ints (by omega)) (by kernel_rfl)) ?_)
      refine Xg.ops_op (by kernel_rfl) (Xg.opx_int .i64 (IntKind.wrap .i64 ((B.getD (327 : Nat) (0 : Int)))) rfl (fun _ => by kernel_rfl) (Xg.wrap_i64_in (by omega)) ?_)
      refine Xg.ops_op (by kernel_rfl) (Xg.opx_pure ((iv (B.getD (327 : Nat) (0 : Int)))) rfl (fun _ => by kernel_rfl) ?_)
      refine Xg.ops_nil ?_
      refine Xg.at_seq ?_
      refine Xg.at_region ?_
      refine Xg.ops_op (by kernel_rfl) (Xg.opx_pure ((iv (B.getD (327 : Nat) (0 : Int)))) rfl (fun _ => by kernel_rfl) ?_)
      refine Xg.ops_op (by kernel_rfl) (Xg.opx_call1' [] [A, row xb2 (34 : TypeId) [Value.string (St []), iv 0, iv 0, iv 0, iv 0, Value.bool false], row xb1 (34 : TypeId) [Value.string (St []), iv 0, iv 0, iv 0, iv 0, Value.bool false]] (fun _ => by kernel_rfl) (@hk0 ) (by kernel_rfl) (by kernel_rfl) (by kernel_rfl) ?_)
      refine Xg.ops_op (by kernel_rfl) (Xg.opx_pure ((Value.tuple #[Value.agg #[iv 0, iv 0, Value.slice none (0 : Nat) (0 : Nat), Value.bool false], Value.bool false])) rfl (fun _ => by kernel_rfl) ?_)
      refine Xg.ops_op (by kernel_rfl) (Xg.opx_pure ((Value.agg #[iv 0, iv 0, Value.slice none (0 : Nat) (0 : Nat), Value.bool false])) rfl (fun _ => by kernel_rfl) ?_)
      refine Xg.ops_op (by kernel_rfl) (Xg.opx_pure ((Value.bool false)) rfl (fun _ => by kernel_rfl) ?_)
      refine Xg.ops_op (by kernel_rfl) (Xg.opx_new 4 [iv 0, iv 0, Value.slice none (0 : Nat) (0 : Nat), Value.bool false] (by kernel_rfl) (by kernel_rfl) fun xb3 => ?_)
      refine Xg.ops_op (by kernel_rfl) (Xg.opx_storen 4 (off := 0) 0 [iv 0, iv 0, Value.slice none (0 : Nat) (0 : Nat), Value.bool false] (by kernel_rfl) rfl (by kernel_rfl) (by kernel_rfl) rfl (by kernel_rfl) (Nat.le_of_ble_eq_true (by kernel_rfl)) ?_)
      refine Xg.ops_op (by kernel_rfl) (Xg.opx_pure ((Value.bool false)) rfl (fun _ => by kernel_rfl) ?_)
      refine Xg.ops_nil ?_
      refine Xg.at_seq ?_
      refine Xg.at_seq ?_
      refine Xg.at_region ?_
      refine Xg.ops_op (by kernel_rfl) (Xg.opx_pure ((Value.bool false)) rfl (fun _ => by kernel_rfl) ?_)
      refine Xg.ops_op (by kernel_rfl) (Xg.opx_pure (.bool true) rfl (fun _ => by kernel_rfl) ?_)
      refine Xg.ops_nil ?_
      refine Xg.at_true (t := true) (by kernel_rfl) rfl ?_
      refine Xg.at_seq ?_
      refine Xg.at_region ?_
      refine Xg.ops_op (by kernel_rfl) (Xg.opx_loadn (off := 0) 6 2 [Value.string (St []), iv 0, iv 0, iv 0, iv 0, Value.bool false] (by kernel_rfl) rfl (by kernel_rfl) rfl (Xg.cells_at (by kernel_rfl)) (by kernel_rfl) ?_)
      refine Xg.ops_op (by kernel_rfl) (Xg.opx_storen 6 (off := 0) 3 [Value.string (St []), iv 0, iv 0, iv 0, iv 0, Value.bool false] (by kernel_rfl) rfl (by kernel_rfl) (by kernel_rfl) rfl (by kernel_rfl) (Nat.le_of_ble_eq_true (by kernel_rfl)) ?_)
      refine Xg.ops_op (by kernel_rfl) (Xg.opx_pure ((iv 45)) rfl (fun _ => by kernel_rfl) ?_)
      refine Xg.ops_nil ?_
      refine Xg.at_ret_feed (v := (Value.tuple #[Value.agg #[Value.string (St []), iv 0, iv 0, iv 0, iv 0, Value.bool false], iv 45])) [(Addr.mk xb1 (0 : Nat) none), (Addr.mk xb1 (1 : Nat) none), (Addr.mk xb1 (2 : Nat) none), (Addr.mk xb1 (3 : Nat) none), (Addr.mk xb1 (4 : Nat) none), (Addr.mk xb1 (5 : Nat) none)] [Value.string (St []), iv 0, iv 0, iv 0, iv 0, Value.bool false] [1] [A] Go.Proofs.Try.func25 (by kernel_rfl) (Xg.cells_cons (b := xb1) (off := 0) 3 rfl (by kernel_rfl) (Xg.cells_cons (b := xb1) (off := 1) 3 rfl (by kernel_rfl) (Xg.cells_cons (b := xb1) (off := 2) 3 rfl (by kernel_rfl) (Xg.cells_cons (b := xb1) (off := 3) 3 rfl (by kernel_rfl) (Xg.cells_cons (b := xb1) (off := 4) 3 rfl (by kernel_rfl) (Xg.cells_cons (b := xb1) (off := 5) 3 rfl (by kernel_rfl) Xg.cells_nil)))))) (by kernel_rfl) (by kernel_rfl) ?_
      exact ⟨by kernel_rfl, by kernel_rfl⟩)
  | some k' =>
    rw [hkd] at hck
    dsimp only at hck
    have hk1 := rkind_o hkd
    obtain ⟨hcd, hmp⟩ := kd_codes hkd
    have hcl := kd_len hkd
    (focus
      refine Xg.at_seq ?_
      refine Xg.at_seq ?_
      refine Xg.at_region ?_
      refine Xg.ops_op (by kernel_rfl) (Xg.opx_pure ((iv (↑i : Int))) rfl (fun _ => by kernel_rfl) ?_)
      refine Xg.ops_op (by kernel_rfl) (Xg.opx_pure (.bool (decide ((((↑i : Int)) : Int) < ((48 : Int))))) rfl (fun _ => by kernel_rfl) ?_)
      refine Xg.ops_nil ?_
      refine Xg.at_false (t := decide (((↑i : Int) < (48 : Int)))) (by kernel_rfl) (decide_eq_false (by omega)) ?_
      refine Xg.at_exit rfl ?_
      refine Xg.at_seq ?_
      refine Xg.at_region ?_
      refine Xg.ops_op (by kernel_rfl) (Xg.opx_pure ((Value.slice a n c)) rfl (fun _ => by kernel_rfl) ?_)
      refine Xg.ops_op (by kernel_rfl) (Xg.opx_call1' [2] [A, row xb2 (34 : TypeId) [Value.string (St []), iv 0, iv 0, iv 0, iv 0, Value.bool false], row xb1 (34 : TypeId) [Value.string (St []), iv 0, iv 0, iv 0, iv 0, Value.bool false]] (fun _ => by kernel_rfl) (@hsm ) (by kernel_rfl) (by kernel_rfl) (by kernel_rfl) ?_)
      refine Xg.ops_op (by kernel_rfl) (Xg.opx_pure ((uv (((231 : Int) - hsum B (25 : Nat)) % (256 : Int)))) rfl (fun _ => by kernel_rfl) ?_)
      refine Xg.ops_nil ?_
      refine Xg.at_seq ?_
      refine Xg.at_seq ?_
      refine Xg.at_region ?_
      refine Xg.ops_op (by kernel_rfl) (Xg.opx_pure ((Value.slice a n c)) rfl (fun _ => by kernel_rfl) ?_)
      refine Xg.ops_op (by kernel_rfl) (Xg.opx_rd 0 (.pointer (some (Addr.mk (Xg.blk a) (offA a + (333 : Nat)) none))) rfl hR (by kernel_rfl) (Xg.run_ix_rd (elem := 5) (kd := .i64) (e := ((333 : Int))) 1 ((333 : Nat)) (offA a + (333 : Nat)) (by kernel_rfl) (by kernel_rfl) (by kernel_rfl) (by kernel_rfl) rfl (by omega) (by simp only [List.length_map]; omega) (by omega)) ?_)
      refine Xg.ops_op (by kernel_rfl) (Xg.opx_rd 0 (uv (B.getD (333 : Nat) (0 : Int))) rfl hR (by kernel_rfl) (Xg.run_load_rd (off0 := (offA a + (333 : Nat))) ((333 : Nat)) (by kernel_rfl) (by omega) (Xg.get_ints (by omega)) (by kernel_rfl)) ?_)
      refine Xg.ops_op (by kernel_rfl) (Xg.opx_pure ((uv (((231 : Int) - hsum B (25 : Nat)) % (256 : Int)))) rfl (fun _ => by kernel_rfl) ?_)
      refine Xg.ops_op (by kernel_rfl) (Xg.opx_pure (.bool (!decide (((B.getD (333 : Nat) (0 : Int)) : Int) = (((231 : Int) - hsum B (25 : Nat)) % (256 : Int))))) rfl (fun _ => by kernel_rfl) ?_)
      refine Xg.ops_nil ?_
      refine Xg.at_false (t := !decide ((B.getD (333 : Nat) (0 : Int) = ((231 : Int) - hsum B (25 : Nat)) % (256 : Int)))) (by kernel_rfl) (by rw [decide_eq_true (by omega)]; rfl) ?_
      refine Xg.at_skip ?_
      refine Xg.at_seq ?_
      refine Xg.at_seq ?_
      refine Xg.at_region ?_
      refine Xg.ops_op (by kernel_rfl) (Xg.opx_pure ((Value.slice a n c)) rfl (fun _ => by kernel_rfl) ?_)
      refine Xg.ops_op (by kernel_rfl) (Xg.opx_rd 0 (.pointer (some (Addr.mk (Xg.blk a) (offA a + (323 : Nat)) none))) rfl hR (by kernel_rfl) (Xg.run_ix_rd (elem := 5) (kd := .i64) (e := ((323 : Int))) 1 ((323 : Nat)) (offA a + (323 : Nat)) (by kernel_rfl) (by kernel_rfl) (by kernel_rfl) (by kernel_rfl) rfl (by omega) (by simp only [List.length_map]; omega) (by omega)) ?_)
      refine Xg.ops_op (by kernel_rfl) (Xg.opx_rd 0 (uv (B.getD (323 : Nat) (0 : Int))) rfl hR (by kernel_rfl) (Xg.run_load_rd (off0 := (offA a + (323 : Nat))) ((323 : Nat)) (by kernel_rfl) (by omega) (Xg.get_ints (by omega)) (by kernel_rfl)) ?_)
      refine Xg.ops_op (by kernel_rfl) (Xg.opx_pure (.bool (decide (((B.getD (323 : Nat) (0 : Int)) : Int) = ((192 : Int))))) rfl (fun _ => by kernel_rfl) ?_)
      refine Xg.ops_nil ?_
      refine Xg.at_false (t := decide ((B.getD (323 : Nat) (0 : Int) = (192 : Int)))) (by kernel_rfl) (decide_eq_false (by omega)) ?_
      refine Xg.at_skip ?_
      refine Xg.at_seq ?_
      refine Xg.at_region ?_
      refine Xg.ops_op (by kernel_rfl) (Xg.opx_pure ((Value.slice a n c)) rfl (fun _ => by kernel_rfl) ?_)
      refine Xg.ops_op (by kernel_rfl) (Xg.opx_rd 0 (.pointer (some (Addr.mk (Xg.blk a) (offA a + (327 : Nat)) none))) rfl hR (by kernel_rfl) (Xg.run_ix_rd (elem := 5) (kd := .i64) (e := ((327 : Int))) 1 ((327 : Nat)) (offA a + (327 : Nat)) (by kernel_rfl) (by kernel_rfl) (by kernel_rfl) (by kernel_rfl) rfl (by omega) (by simp only [List.length_map]; omega) (by omega)) ?_)
      refine Xg.ops_op (by kernel_rfl) (Xg.opx_rd 0 (uv (B.getD (327 : Nat) (0 : Int))) rfl hR (by kernel_rfl) (Xg.run_load_rd (off0 := (offA a + (327 : Nat))) ((327 : Nat)) (by kernel_rfl) (by omega) (Xg.get_ints (by omega)) (by kernel_rfl)) ?_)
      refine Xg.ops_op (by kernel_rfl) (Xg.opx_int .i64 (IntKind.wrap .i64 ((B.getD (327 : Nat) (0 : Int)))) rfl (fun _ => by kernel_rfl) (Xg.wrap_i64_in (by omega)) ?_)
      refine Xg.ops_op (by kernel_rfl) (Xg.opx_pure ((iv (B.getD (327 : Nat) (0 : Int)))) rfl (fun _ => by kernel_rfl) ?_)
      refine Xg.ops_nil ?_
      refine Xg.at_seq ?_
      refine Xg.at_region ?_
      refine Xg.ops_op (by kernel_rfl) (Xg.opx_pure ((iv (B.getD (327 : Nat) (0 : Int)))) rfl (fun _ => by kernel_rfl) ?_)
      refine Xg.ops_op (by kernel_rfl) (Xg.opx_callE' [] (fun xx1 => [ownS (3 : TypeId) (1 : Nat) (Value.slice xx1 k'.cl.length k'.cl.length) k'.cl.length (List.map (Value.int IntKind.i64) k'.cl), A, row xb2 (34 : TypeId) [Value.string (St []), iv 0, iv 0, iv 0, iv 0, Value.bool false], row xb1 (34 : TypeId) [Value.string (St []), iv 0, iv 0, iv 0, iv 0, Value.bool false]]) (fun _ => by kernel_rfl) (@hk1 ) (by kernel_rfl) (by kernel_rfl) (by kernel_rfl) fun xx1 xh1 => ?_)
      try dsimp only at xh1
      refine Xg.ops_op (by kernel_rfl) (Xg.opx_pure ((Value.tuple #[Value.agg #[iv k'.mp, iv k'.bk, Value.slice xx1 k'.cl.length k'.cl.length, Value.bool k'.bt], Value.bool true])) rfl (fun _ => by kernel_rfl) ?_)
      refine Xg.ops_op (by kernel_rfl) (Xg.opx_pure ((Value.agg #[iv k'.mp, iv k'.bk, Value.slice xx1 k'.cl.length k'.cl.length, Value.bool k'.bt])) rfl (fun _ => by kernel_rfl) ?_)
      refine Xg.ops_op (by kernel_rfl) (Xg.opx_pure ((Value.bool true)) rfl (fun _ => by kernel_rfl) ?_)
      refine Xg.ops_op (by kernel_rfl) (Xg.opx_new 4 [iv 0, iv 0, Value.slice none (0 : Nat) (0 : Nat), Value.bool false] (by kernel_rfl) (by kernel_rfl) fun xb3 => ?_)
      refine Xg.ops_op (by kernel_rfl) (Xg.opx_storen 4 (off := 0) 0 [iv k'.mp, iv k'.bk, Value.slice xx1 k'.cl.length k'.cl.length, Value.bool k'.bt] (by kernel_rfl) rfl (by kernel_rfl) (by kernel_rfl) rfl (by kernel_rfl) (Nat.le_of_ble_eq_true (by kernel_rfl)) ?_)
      refine Xg.ops_op (by kernel_rfl) (Xg.opx_pure ((Value.bool true)) rfl (fun _ => by kernel_rfl) ?_)
      refine Xg.ops_nil ?_
      refine Xg.at_seq ?_
      refine Xg.at_seq ?_
      refine Xg.at_region ?_
      refine Xg.ops_op (by kernel_rfl) (Xg.opx_pure ((Value.bool true)) rfl (fun _ => by kernel_rfl) ?_)
      refine Xg.ops_op (by kernel_rfl) (Xg.opx_pure (.bool false) rfl (fun _ => by kernel_rfl) ?_)
      refine Xg.ops_nil ?_
      refine Xg.at_false (t := false) (by kernel_rfl) rfl ?_
      refine Xg.at_skip ?_
      refine Xg.at_seq ?_
      refine Xg.at_region ?_
      refine Xg.ops_op (by kernel_rfl) (Xg.opx_pure ((iv 2)) rfl (fun _ => by kernel_rfl) ?_)
      refine Xg.ops_nil ?_
      refine Xg.at_seq ?_
      refine Xg.at_seq ?_
      refine Xg.at_region ?_
      refine Xg.ops_op (by kernel_rfl) (Xg.opx_pure ((iv 0)) rfl (fun _ => by kernel_rfl) ?_)
      refine Xg.ops_nil ?_
      refine Xg.at_block ?_)
    (focus
      refine Xg.at_rounds_inv (α := (Nat × Int) × (Nat → Value)) (fun x => ((fun x => x.1 ≤ 7 ∧ (x.1 : Int) ≤ B.getD 328 0 ∧ x.2 = bnk x.1 ∧ 0 ≤ x.2 ∧ x.2 ≤ 256) : (Nat × Int) → Prop) x.1) (fun x => ((fun x => 7 - x.1) : (Nat × Int) → Nat) x.1) (fun x => Xg.headT [Value.slice a n c, tu, pv xb1 0, J0 3, pv xb2 0, iv (↑i : Int), uv (((231 : Int) - hsum B (25 : Nat)) % (256 : Int)), iv (B.getD (327 : Nat) (0 : Int)), pv xb3 0, Value.bool true, iv 2, iv 0, tu, tu, tu, tu, tu, tu, Value.slice a n c, iv (↑n : Int), Value.bool (decide ((↑n : Int) < (32768 : Int))), Value.bool false, Value.slice a n c, iv (↑n : Int), Value.bool false, Value.bool false, tu, iv (↑i : Int), Value.bool (decide ((↑i : Int) < (48 : Int))), J0 29, J0 30, J0 31, J0 32, J0 33, J0 34, J0 35, J0 36, J0 37, J0 38, J0 39, Value.slice a n c, uv (((231 : Int) - hsum B (25 : Nat)) % (256 : Int)), Value.slice a n c, Value.pointer (some (Addr.mk (blk a) (offA a + (333 : Nat)) none)), uv (B.getD (333 : Nat) (0 : Int)), uv (((231 : Int) - hsum B (25 : Nat)) % (256 : Int)), Value.bool !decide (B.getD (333 : Nat) (0 : Int) = ((231 : Int) - hsum B (25 : Nat)) % (256 : Int)), tu, Value.slice a n c, Value.pointer (some (Addr.mk (blk a) (offA a + (323 : Nat)) none)), uv (B.getD (323 : Nat) (0 : Int)), Value.bool (decide (B.getD (323 : Nat) (0 : Int) = (192 : Int))), tu, Value.slice a n c, Value.pointer (some (Addr.mk (blk a) (offA a + (327 : Nat)) none)), uv (B.getD (327 : Nat) (0 : Int)), iv (B.getD (327 : Nat) (0 : Int)), Value.tuple #[Value.agg #[iv k'.mp, iv k'.bk, Value.slice xx1 k'.cl.length k'.cl.length, Value.bool k'.bt], Value.bool true], iv (B.getD (327 : Nat) (0 : Int)), Value.tuple #[Value.agg #[iv k'.mp, iv k'.bk, Value.slice xx1 k'.cl.length k'.cl.length, Value.bool k'.bt], Value.bool true], Value.agg #[iv k'.mp, iv k'.bk, Value.slice xx1 k'.cl.length k'.cl.length, Value.bool k'.bt], Value.bool true, Value.bool true, Value.bool false, tu, tu, tu, tu, tu, tu, tu, tu, tu, tu, tu, tu, tu, tu, tu, tu, tu, tu, tu, tu, tu, tu, tu, tu, tu, tu, tu, tu, tu, tu, tu, tu, tu, tu, tu, tu, tu, tu, tu, tu, tu, tu, tu, tu, tu, tu, tu, tu, tu, tu, tu, tu, tu, tu, tu, tu, tu, tu, tu, tu, tu, tu, tu, tu, tu, tu, tu, tu, tu, tu, tu, tu, tu, tu, tu, tu, tu, tu, tu, tu, tu, tu, tu, tu, tu, tu, tu, tu, tu, tu] [65, 66, 67, 68, 69, 70, 71, 72, 73, 74, 75, 76, 77, 78] (((fun x => [(10, .int .i64 x.2), (11, .int .i64 (x.1 : Nat))]) : (Nat × Int) → List (Nat × Go.Value)) x.1) x.2) (fun x => ((fun x => [row xb3 93 [.int .i64 k'.mp, .int .i64 k'.bk, .slice xx1 k'.cl.length k'.cl.length, .bool k'.bt], ownS 3 1 (.slice xx1 k'.cl.length k'.cl.length) k'.cl.length (k'.cl.map (Value.int .i64)), A, row xb2 34 [.string (St []), .int .i64 0, .int .i64 0, .int .i64 0, .int .i64 0, .bool false], row xb1 34 [.string (St []), .int .i64 0, .int .i64 0, .int .i64 0, .int .i64 0, .bool false]]) : (Nat × Int) → List Go.Sl.HP) x.1) (((0, 2)), fun j9 => ([Value.slice a n c, tu, pv xb1 0, J0 3, pv xb2 0, iv (↑i : Int), uv (((231 : Int) - hsum B (25 : Nat)) % (256 : Int)), iv (B.getD (327 : Nat) (0 : Int)), pv xb3 0, Value.bool true, iv 2, iv 0, tu, tu, tu, tu, tu, tu, Value.slice a n c, iv (↑n : Int), Value.bool (decide ((↑n : Int) < (32768 : Int))), Value.bool false, Value.slice a n c, iv (↑n : Int), Value.bool false, Value.bool false, tu, iv (↑i : Int), Value.bool (decide ((↑i : Int) < (48 : Int))), J0 29, J0 30, J0 31, J0 32, J0 33, J0 34, J0 35, J0 36, J0 37, J0 38, J0 39, Value.slice a n c, uv (((231 : Int) - hsum B (25 : Nat)) % (256 : Int)), Value.slice a n c, Value.pointer (some (Addr.mk (blk a) (offA a + (333 : Nat)) none)), uv (B.getD (333 : Nat) (0 : Int)), uv (((231 : Int) - hsum B (25 : Nat)) % (256 : Int)), Value.bool !decide (B.getD (333 : Nat) (0 : Int) = ((231 : Int) - hsum B (25 : Nat)) % (256 : Int)), tu, Value.slice a n c, Value.pointer (some (Addr.mk (blk a) (offA a + (323 : Nat)) none)), uv (B.getD (323 : Nat) (0 : Int)), Value.bool (decide (B.getD (323 : Nat) (0 : Int) = (192 : Int))), tu, Value.slice a n c, Value.pointer (some (Addr.mk (blk a) (offA a + (327 : Nat)) none)), uv (B.getD (327 : Nat) (0 : Int)), iv (B.getD (327 : Nat) (0 : Int)), Value.tuple #[Value.agg #[iv k'.mp, iv k'.bk, Value.slice xx1 k'.cl.length k'.cl.length, Value.bool k'.bt], Value.bool true], iv (B.getD (327 : Nat) (0 : Int)), Value.tuple #[Value.agg #[iv k'.mp, iv k'.bk, Value.slice xx1 k'.cl.length k'.cl.length, Value.bool k'.bt], Value.bool true], Value.agg #[iv k'.mp, iv k'.bk, Value.slice xx1 k'.cl.length k'.cl.length, Value.bool k'.bt], Value.bool true, Value.bool true, Value.bool false, tu, tu, tu, tu, tu, tu, tu, tu, tu, tu, tu, tu, tu, tu, tu, tu, tu, tu, tu, tu, tu, tu, tu, tu, tu, tu, tu, tu, tu, tu, tu, tu, tu, tu, tu, tu, tu, tu, tu, tu, tu, tu, tu, tu, tu, tu, tu, tu, tu, tu, tu, tu, tu, tu, tu, tu, tu, tu, tu, tu, tu, tu, tu, tu, tu, tu, tu, tu, tu, tu, tu, tu, tu, tu, tu, tu, tu, tu, tu, tu, tu, tu, tu, tu, tu, tu, tu, tu, tu, tu] : List Value).getD j9 undef) (by kernel_rfl) (by kernel_rfl) ?_ ?_)
    · exact ⟨Nat.zero_le _, hb8.1, rfl, by show (0 : Int) ≤ 2; decide, by show (2 : Int) ≤ 256; decide⟩
    rintro ⟨⟨j, bn⟩, J1⟩ hI ih
    obtain ⟨hj, hj2, hbn, hbn0, hbn1⟩ := hI
    dsimp only at hj hj2 hbn hbn0 hbn1
    (focus
      refine Xg.At.same (T' := [Value.slice a n c, tu, pv xb1 0, J0 3, pv xb2 0, iv (↑i : Int), uv (((231 : Int) - hsum B (25 : Nat)) % (256 : Int)), iv (B.getD (327 : Nat) (0 : Int)), pv xb3 0, Value.bool true, iv bn, iv (↑j : Int), tu, tu, tu, tu, tu, tu, Value.slice a n c, iv (↑n : Int), Value.bool (decide ((↑n : Int) < (32768 : Int))), Value.bool false, Value.slice a n c, iv (↑n : Int), Value.bool false, Value.bool false, tu, iv (↑i : Int), Value.bool (decide ((↑i : Int) < (48 : Int))), J0 29, J0 30, J0 31, J0 32, J0 33, J0 34, J0 35, J0 36, J0 37, J0 38, J0 39, Value.slice a n c, uv (((231 : Int) - hsum B (25 : Nat)) % (256 : Int)), Value.slice a n c, Value.pointer (some (Addr.mk (blk a) (offA a + (333 : Nat)) none)), uv (B.getD (333 : Nat) (0 : Int)), uv (((231 : Int) - hsum B (25 : Nat)) % (256 : Int)), Value.bool !decide (B.getD (333 : Nat) (0 : Int) = ((231 : Int) - hsum B (25 : Nat)) % (256 : Int)), tu, Value.slice a n c, Value.pointer (some (Addr.mk (blk a) (offA a + (323 : Nat)) none)), uv (B.getD (323 : Nat) (0 : Int)), Value.bool (decide (B.getD (323 : Nat) (0 : Int) = (192 : Int))), tu, Value.slice a n c, Value.pointer (some (Addr.mk (blk a) (offA a + (327 : Nat)) none)), uv (B.getD (327 : Nat) (0 : Int)), iv (B.getD (327 : Nat) (0 : Int)), Value.tuple #[Value.agg #[iv k'.mp, iv k'.bk, Value.slice xx1 k'.cl.length k'.cl.length, Value.bool k'.bt], Value.bool true], iv (B.getD (327 : Nat) (0 : Int)), Value.tuple #[Value.agg #[iv k'.mp, iv k'.bk, Value.slice xx1 k'.cl.length k'.cl.length, Value.bool k'.bt], Value.bool true], Value.agg #[iv k'.mp, iv k'.bk, Value.slice xx1 k'.cl.length k'.cl.length, Value.bool k'.bt], Value.bool true, Value.bool true, Value.bool false, tu, J1 65, J1 66, J1 67, J1 68, J1 69, J1 70, J1 71, J1 72, J1 73, J1 74, J1 75, J1 76, J1 77, J1 78, tu, tu, tu, tu, tu, tu, tu, tu, tu, tu, tu, tu, tu, tu, tu, tu, tu, tu, tu, tu, tu, tu, tu, tu, tu, tu, tu, tu, tu, tu, tu, tu, tu, tu, tu, tu, tu, tu, tu, tu, tu, tu, tu, tu, tu, tu, tu, tu, tu, tu, tu, tu, tu, tu, tu, tu, tu, tu, tu, tu, tu, tu, tu, tu, tu, tu, tu, tu, tu, tu, tu, tu, tu, tu, tu]) (L' := [row xb3 (93 : TypeId) [iv k'.mp, iv k'.bk, Value.slice xx1 k'.cl.length k'.cl.length, Value.bool k'.bt], ownS (3 : TypeId) (1 : Nat) (Value.slice xx1 k'.cl.length k'.cl.length) k'.cl.length (List.map (Value.int IntKind.i64) k'.cl), A, row xb2 (34 : TypeId) [Value.string (St []), iv 0, iv 0, iv 0, iv 0, Value.bool false], row xb1 (34 : TypeId) [Value.string (St []), iv 0, iv 0, iv 0, iv 0, Value.bool false]]) (by kernel_rfl) rfl ?_)
    by_cases hlt2 : j < 7
    · by_cases hlt3 : (j : Int) < B.getD 328 0
      · (focus
          refine Xg.at_seq ?_
          refine Xg.at_seq ?_
          refine Xg.at_region ?_
          refine Xg.ops_op (by kernel_rfl) (Xg.opx_pure ((iv (↑j : Int))) rfl (fun _ => by kernel_rfl) ?_)
          refine Xg.ops_op (by kernel_rfl) (Xg.opx_pure ((Value.slice a n c)) rfl (fun _ => by kernel_rfl) ?_)
          refine Xg.ops_op (by kernel_rfl) (Xg.opx_rd 2 (.pointer (some (Addr.mk (Xg.blk a) (offA a + (328 : Nat)) none))) rfl hR (by kernel_rfl) (Xg.run_ix_rd (elem := 5) (kd := .i64) (e := ((328 : Int))) 1 ((328 : Nat)) (offA a + (328 : Nat)) (by kernel_rfl) (by kernel_rfl) (by kernel_rfl) (by kernel_rfl) rfl (by omega) (by simp only [List.length_map]; omega) (by omega)) ?_)
          refine Xg.ops_op (by kernel_rfl) (Xg.opx_rd 2 (uv (B.getD (328 : Nat) (0 : Int))) rfl hR (by kernel_rfl) (Xg.run_load_rd (off0 := (offA a + (328 : Nat))) ((328 : Nat)) (by kernel_rfl) (by omega) (Xg.get_ints (by omega)) (by kernel_rfl)) ?_)
          refine Xg.ops_op (by kernel_rfl) (Xg.opx_int .i64 (IntKind.wrap .i64 ((B.getD (328 : Nat) (0 : Int)))) rfl (fun _ => by kernel_rfl) (Xg.wrap_i64_in (by omega)) ?_)
          refine Xg.ops_op (by kernel_rfl) (Xg.opx_pure (.bool (decide ((((↑j : Int)) : Int) < (B.getD (328 : Nat) (0 : Int))))) rfl (fun _ => by kernel_rfl) ?_)
          refine Xg.ops_op (by kernel_rfl) (Xg.opx_pure ((Value.bool (decide ((↑j : Int) < B.getD (328 : Nat) (0 : Int))))) rfl (fun _ => by kernel_rfl) ?_)
          refine Xg.ops_flag (j := 71) (c := (decide ((↑j : Int) < B.getD (328 : Nat) (0 : Int)))) (by kernel_rfl) (fun _ => ?_) (fun xh2 => absurd (of_decide_eq_false xh2) (by omega))
          refine Xg.ops_op (by kernel_rfl) (Xg.opx_pure ((iv (↑j : Int))) rfl (fun _ => by kernel_rfl) ?_)
          refine Xg.ops_op (by kernel_rfl) (Xg.opx_pure (.bool (decide ((((↑j : Int)) : Int) < ((7 : Int))))) rfl (fun _ => by kernel_rfl) ?_)
          refine Xg.ops_flag (j := 73) (c := (decide ((↑j : Int) < (7 : Int)))) (by kernel_rfl) (fun _ => ?_) (fun xh2 => absurd (of_decide_eq_false xh2) (by omega))
          refine Xg.ops_op (by kernel_rfl) (Xg.opx_pure ((Value.bool true)) rfl (fun _ => by kernel_rfl) ?_)
          refine Xg.ops_nil ?_
          refine Xg.at_true (t := true) (by kernel_rfl) rfl ?_
          refine Xg.at_skip ?_
          refine Xg.at_seq ?_
          refine Xg.at_block ?_
          refine Xg.at_region ?_
          refine Xg.ops_op (by kernel_rfl) (Xg.opx_pure ((iv bn)) rfl (fun _ => by kernel_rfl) ?_)
          refine Xg.ops_op (by kernel_rfl) (Xg.opx_int .i64 (IntKind.wrap .i64 (((2 : Int) * bn))) rfl (fun _ => by kernel_rfl) (Xg.wrap_i64_in (by omega)) ?_)
          refine Xg.ops_op (by kernel_rfl) (Xg.opx_pure ((iv ((2 : Int) * bn))) rfl (fun _ => by kernel_rfl) ?_)
          refine Xg.ops_nil ?_
          refine Xg.at_inBlock ?_
          refine Xg.at_region ?_
          refine Xg.ops_op (by kernel_rfl) (Xg.opx_pure ((iv (↑j : Int))) rfl (fun _ => by kernel_rfl) ?_)
          refine Xg.ops_op (by kernel_rfl) (Xg.opx_int .i64 (IntKind.wrap .i64 (((↑j : Int) + (1 : Int)))) rfl (fun _ => by kernel_rfl) (Xg.wrap_i64_in (by omega)) ?_)
          refine Xg.ops_op (by kernel_rfl) (Xg.opx_pure ((iv ((↑j : Int) + (1 : Int)))) rfl (fun _ => by kernel_rfl) ?_)
          refine Xg.ops_nil ?_
          refine Xg.at_inLoop ?_)
        (focus
          refine Xg.at_keep [0, 1, 2, 3, 4] (by kernel_rfl) ?_
          refine Xs.same ?_ (fun J9 => ih (((j + 1, 2 * bn)), J9) ?_ ?_) (by kernel_rfl))
        · rfl
        · have h2 : 2 * bn = bnk ((j + 1 : Nat) : Int) := by rw [hbn]; unfold bnk; rw [Int.toNat_natCast, Int.toNat_natCast, Int.pow_succ]; omega
          have h3 : bnk ((j + 1 : Nat) : Int) ≤ 256 := by
            rcases (show j = 0 ∨ j = 1 ∨ j = 2 ∨ j = 3 ∨ j = 4 ∨ j = 5 ∨ j = 6 by omega) with e | e | e | e | e | e | e <;> subst e <;> decide
          exact ⟨hlt2, by show ((j + 1 : Nat) : Int) ≤ _; omega, h2, by show 0 ≤ 2 * bn; omega, by show 2 * bn ≤ 256; omega⟩
        · show 7 - (j + 1) < 7 - j; omega
      clear ih
      have ej : (j : Int) = B.getD 328 0 := by omega
      rw [ej] at hbn
      rw [← hbn] at hck
      by_cases h5 : k'.bk < bn
      · rw [if_pos (Or.inr (Or.inl h5))] at hck
        rw [hck]
        (focus
          refine Xg.at_seq ?_
          refine Xg.at_seq ?_
          refine Xg.at_region ?_
          refine Xg.ops_op (by kernel_rfl) (Xg.opx_pure ((iv (↑j : Int))) rfl (fun _ => by kernel_rfl) ?_)
          refine Xg.ops_op (by kernel_rfl) (Xg.opx_pure ((Value.slice a n c)) rfl (fun _ => by kernel_rfl) ?_)
          refine Xg.ops_op (by kernel_rfl) (Xg.opx_rd 2 (.pointer (some (Addr.mk (Xg.blk a) (offA a + (328 : Nat)) none))) rfl hR (by kernel_rfl) (Xg.run_ix_rd (elem := 5) (kd := .i64) (e := ((328 : Int))) 1 ((328 : Nat)) (offA a + (328 : Nat)) (by kernel_rfl) (by kernel_rfl) (by kernel_rfl) (by kernel_rfl) rfl (by omega) (by simp only [List.length_map]; omega) (by omega)) ?_)
          refine Xg.ops_op (by kernel_rfl) (Xg.opx_rd 2 (uv (B.getD (328 : Nat) (0 : Int))) rfl hR (by kernel_rfl) (Xg.run_load_rd (off0 := (offA a + (328 : Nat))) ((328 : Nat)) (by kernel_rfl) (by omega) (Xg.get_ints (by omega)) (by kernel_rfl)) ?_)
          refine Xg.ops_op (by kernel_rfl) (Xg.opx_int .i64 (IntKind.wrap .i64 ((B.getD (328 : Nat) (0 : Int)))) rfl (fun _ => by kernel_rfl) (Xg.wrap_i64_in (by omega)) ?_)
          refine Xg.ops_op (by kernel_rfl) (Xg.opx_pure (.bool (decide ((((↑j : Int)) : Int) < (B.getD (328 : Nat) (0 : Int))))) rfl (fun _ => by kernel_rfl) ?_)
          refine Xg.ops_op (by kernel_rfl) (Xg.opx_pure ((Value.bool (decide ((↑j : Int) < B.getD (328 : Nat) (0 : Int))))) rfl (fun _ => by kernel_rfl) ?_)
          refine Xg.ops_flag (j := 71) (c := (decide ((↑j : Int) < B.getD (328 : Nat) (0 : Int)))) (by kernel_rfl) (fun xh2 => absurd (of_decide_eq_true xh2) (by omega)) (fun _ => ?_)
          refine Xg.ops_skip (by kernel_rfl) ?_
          refine Xg.ops_skip (by kernel_rfl) ?_
          refine Xg.ops_op (by kernel_rfl) (Xg.opx_pure ((Value.bool false)) rfl (fun _ => by kernel_rfl) ?_)
          refine Xg.ops_nil ?_
          refine Xg.at_false (t := false) (by kernel_rfl) rfl ?_
          refine Xg.at_exit rfl ?_
          refine Xg.at_seq ?_
          refine Xg.at_seq ?_
          refine Xg.at_region ?_
          refine Xg.ops_op (by kernel_rfl) (Xg.opx_pure ((Value.slice a n c)) rfl (fun _ => by kernel_rfl) ?_)
          refine Xg.ops_op (by kernel_rfl) (Xg.opx_rd 2 (.pointer (some (Addr.mk (Xg.blk a) (offA a + (328 : Nat)) none))) rfl hR (by kernel_rfl) (Xg.run_ix_rd (elem := 5) (kd := .i64) (e := ((328 : Int))) 1 ((328 : Nat)) (offA a + (328 : Nat)) (by kernel_rfl) (by kernel_rfl) (by kernel_rfl) (by kernel_rfl) rfl (by omega) (by simp only [List.length_map]; omega) (by omega)) ?_)
          refine Xg.ops_op (by kernel_rfl) (Xg.opx_rd 2 (uv (B.getD (328 : Nat) (0 : Int))) rfl hR (by kernel_rfl) (Xg.run_load_rd (off0 := (offA a + (328 : Nat))) ((328 : Nat)) (by kernel_rfl) (by omega) (Xg.get_ints (by omega)) (by kernel_rfl)) ?_)
          refine Xg.ops_op (by kernel_rfl) (Xg.opx_pure (.bool (decide (((B.getD (328 : Nat) (0 : Int)) : Int) > ((6 : Int))))) rfl (fun _ => by kernel_rfl) ?_)
          refine Xg.ops_op (by kernel_rfl) (Xg.opx_pure ((Value.bool (decide (B.getD (328 : Nat) (0 : Int) > (6 : Int))))) rfl (fun _ => by kernel_rfl) ?_)
          refine Xg.ops_flag (j := 83) (c := (decide (B.getD (328 : Nat) (0 : Int) > (6 : Int)))) (by kernel_rfl) (fun xh2 => absurd (of_decide_eq_true xh2) (by omega)) (fun _ => ?_)
          refine Xg.ops_op (by kernel_rfl) (Xg.opx_pure ((iv bn)) rfl (fun _ => by kernel_rfl) ?_)
          refine Xg.ops_op (by kernel_rfl) (Xg.opx_pure ((pv xb3 1)) rfl (fun _ => by kernel_rfl) ?_)
          refine Xg.ops_op (by kernel_rfl) (Xg.opx_load (b := xb3) (off := ((1 : Nat))) 0 (iv k'.bk) rfl (by kernel_rfl) (by kernel_rfl) (by kernel_rfl) ?_)
          refine Xg.ops_op (by kernel_rfl) (Xg.opx_pure (.bool (decide ((bn : Int) > k'.bk))) rfl (fun _ => by kernel_rfl) ?_)
          refine Xg.ops_flag (j := 87) (c := (decide (bn > k'.bk))) (by kernel_rfl) (fun _ => ?_) (fun xh2 => absurd (of_decide_eq_false xh2) (by omega))
          refine Xg.ops_op (by kernel_rfl) (Xg.opx_pure ((Value.bool true)) rfl (fun _ => by kernel_rfl) ?_)
          refine Xg.ops_op (by kernel_rfl) (Xg.opx_pure ((Value.bool true)) rfl (fun _ => by kernel_rfl) ?_)
          refine Xg.ops_skip (by kernel_rfl) ?_
          refine Xg.ops_skip (by kernel_rfl) ?_
          refine Xg.ops_skip (by kernel_rfl) ?_
          refine Xg.ops_skip (by kernel_rfl) ?_
          refine Xg.ops_skip (by kernel_rfl) ?_
          refine Xg.ops_op (by kernel_rfl) (Xg.opx_pure ((Value.bool true)) rfl (fun _ => by kernel_rfl) ?_)
          refine Xg.ops_nil ?_
          refine Xg.at_true (t := true) (by kernel_rfl) rfl ?_
          refine Xg.at_seq ?_
          refine Xg.at_region ?_
          refine Xg.ops_op (by kernel_rfl) (Xg.opx_loadn (off := 0) 6 3 [Value.string (St []), iv 0, iv 0, iv 0, iv 0, Value.bool false] (by kernel_rfl) rfl (by kernel_rfl) rfl (Xg.cells_at (by kernel_rfl)) (by kernel_rfl) ?_)
          refine Xg.ops_op (by kernel_rfl) (Xg.opx_storen 6 (off := 0) 4 [Value.string (St []), iv 0, iv 0, iv 0, iv 0, Value.bool false] (by kernel_rfl) rfl (by kernel_rfl) (by kernel_rfl) rfl (by kernel_rfl) (Nat.le_of_ble_eq_true (by kernel_rfl)) ?_)
          refine Xg.ops_op (by kernel_rfl) (Xg.opx_pure ((iv 46)) rfl (fun _ => by kernel_rfl) ?_)
          refine Xg.ops_nil ?_
          refine Xg.at_ret_feed (v := (Value.tuple #[Value.agg #[Value.string (St []), iv 0, iv 0, iv 0, iv 0, Value.bool false], iv 46])) [(Addr.mk xb1 (0 : Nat) none), (Addr.mk xb1 (1 : Nat) none), (Addr.mk xb1 (2 : Nat) none), (Addr.mk xb1 (3 : Nat) none), (Addr.mk xb1 (4 : Nat) none), (Addr.mk xb1 (5 : Nat) none)] [Value.string (St []), iv 0, iv 0, iv 0, iv 0, Value.bool false] [2] [A] Go.Proofs.Try.func25 (by kernel_rfl) (Xg.cells_cons (b := xb1) (off := 0) 4 rfl (by kernel_rfl) (Xg.cells_cons (b := xb1) (off := 1) 4 rfl (by kernel_rfl) (Xg.cells_cons (b := xb1) (off := 2) 4 rfl (by kernel_rfl) (Xg.cells_cons (b := xb1) (off := 3) 4 rfl (by kernel_rfl) (Xg.cells_cons (b := xb1) (off := 4) 4 rfl (by kernel_rfl) (Xg.cells_cons (b := xb1) (off := 5) 4 rfl (by kernel_rfl) Xg.cells_nil)))))) (by kernel_rfl) (by kernel_rfl) ?_
          exact ⟨by kernel_rfl, by kernel_rfl⟩)
      by_cases h6 : bn * 16384 ≠ B.length
      · rw [if_pos (Or.inr (Or.inr h6))] at hck
        rw [hck]
        (focus
          refine Xg.at_seq ?_
          refine Xg.at_seq ?_
          refine Xg.at_region ?_
          refine Xg.ops_op (by kernel_rfl) (Xg.opx_pure ((iv (↑j : Int))) rfl (fun _ => by kernel_rfl) ?_)
          refine Xg.ops_op (by kernel_rfl) (Xg.opx_pure ((Value.slice a n c)) rfl (fun _ => by kernel_rfl) ?_)
          refine Xg.ops_op (by kernel_rfl) (Xg.opx_rd 2 (.pointer (some (Addr.mk (Xg.blk a) (offA a + (328 : Nat)) none))) rfl hR (by kernel_rfl) (Xg.run_ix_rd (elem := 5) (kd := .i64) (e := ((328 : Int))) 1 ((328 : Nat)) (offA a + (328 : Nat)) (by kernel_rfl) (by kernel_rfl) (by kernel_rfl) (by kernel_rfl) rfl (by omega) (by simp only [List.length_map]; omega) (by omega)) ?_)
          refine Xg.ops_op (by kernel_rfl) (Xg.opx_rd 2 (uv (B.getD (328 : Nat) (0 : Int))) rfl hR (by kernel_rfl) (Xg.run_load_rd (off0 := (offA a + (328 : Nat))) ((328 : Nat)) (by kernel_rfl) (by omega) (Xg.get_ints (by omega)) (by kernel_rfl)) ?_)
          refine Xg.ops_op (by kernel_rfl) (Xg.opx_int .i64 (IntKind.wrap .i64 ((B.getD (328 : Nat) (0 : Int)))) rfl (fun _ => by kernel_rfl) (Xg.wrap_i64_in (by omega)) ?_)
          refine Xg.ops_op (by kernel_rfl) (Xg.opx_pure (.bool (decide ((((↑j : Int)) : Int) < (B.getD (328 : Nat) (0 : Int))))) rfl (fun _ => by kernel_rfl) ?_)
          refine Xg.ops_op (by kernel_rfl) (Xg.opx_pure ((Value.bool (decide ((↑j : Int) < B.getD (328 : Nat) (0 : Int))))) rfl (fun _ => by kernel_rfl) ?_)
          refine Xg.ops_flag (j := 71) (c := (decide ((↑j : Int) < B.getD (328 : Nat) (0 : Int)))) (by kernel_rfl) (fun xh2 => absurd (of_decide_eq_true xh2) (by omega)) (fun _ => ?_)
          refine Xg.ops_skip (by kernel_rfl) ?_
          refine Xg.ops_skip (by kernel_rfl) ?_
          refine Xg.ops_op (by kernel_rfl) (Xg.opx_pure ((Value.bool false)) rfl (fun _ => by kernel_rfl) ?_)
          refine Xg.ops_nil ?_
          refine Xg.at_false (t := false) (by kernel_rfl) rfl ?_
          refine Xg.at_exit rfl ?_
          refine Xg.at_seq ?_
          refine Xg.at_seq ?_
          refine Xg.at_region ?_
          refine Xg.ops_op (by kernel_rfl) (Xg.opx_pure ((Value.slice a n c)) rfl (fun _ => by kernel_rfl) ?_)
          refine Xg.ops_op (by kernel_rfl) (Xg.opx_rd 2 (.pointer (some (Addr.mk (Xg.blk a) (offA a + (328 : Nat)) none))) rfl hR (by kernel_rfl) (Xg.run_ix_rd (elem := 5) (kd := .i64) (e := ((328 : Int))) 1 ((328 : Nat)) (offA a + (328 : Nat)) (by kernel_rfl) (by kernel_rfl) (by kernel_rfl) (by kernel_rfl) rfl (by omega) (by simp only [List.length_map]; omega) (by omega)) ?_)
          refine Xg.ops_op (by kernel_rfl) (Xg.opx_rd 2 (uv (B.getD (328 : Nat) (0 : Int))) rfl hR (by kernel_rfl) (Xg.run_load_rd (off0 := (offA a + (328 : Nat))) ((328 : Nat)) (by kernel_rfl) (by omega) (Xg.get_ints (by omega)) (by kernel_rfl)) ?_)
          refine Xg.ops_op (by kernel_rfl) (Xg.opx_pure (.bool (decide (((B.getD (328 : Nat) (0 : Int)) : Int) > ((6 : Int))))) rfl (fun _ => by kernel_rfl) ?_)
          refine Xg.ops_op (by kernel_rfl) (Xg.opx_pure ((Value.bool (decide (B.getD (328 : Nat) (0 : Int) > (6 : Int))))) rfl (fun _ => by kernel_rfl) ?_)
          refine Xg.ops_flag (j := 83) (c := (decide (B.getD (328 : Nat) (0 : Int) > (6 : Int)))) (by kernel_rfl) (fun xh2 => absurd (of_decide_eq_true xh2) (by omega)) (fun _ => ?_)
          refine Xg.ops_op (by kernel_rfl) (Xg.opx_pure ((iv bn)) rfl (fun _ => by kernel_rfl) ?_)
          refine Xg.ops_op (by kernel_rfl) (Xg.opx_pure ((pv xb3 1)) rfl (fun _ => by kernel_rfl) ?_)
          refine Xg.ops_op (by kernel_rfl) (Xg.opx_load (b := xb3) (off := ((1 : Nat))) 0 (iv k'.bk) rfl (by kernel_rfl) (by kernel_rfl) (by kernel_rfl) ?_)
          refine Xg.ops_op (by kernel_rfl) (Xg.opx_pure (.bool (decide ((bn : Int) > k'.bk))) rfl (fun _ => by kernel_rfl) ?_)
          refine Xg.ops_flag (j := 87) (c := (decide (bn > k'.bk))) (by kernel_rfl) (fun xh2 => absurd (of_decide_eq_true xh2) (by omega)) (fun _ => ?_)
          refine Xg.ops_op (by kernel_rfl) (Xg.opx_pure ((Value.bool false)) rfl (fun _ => by kernel_rfl) ?_)
          refine Xg.ops_op (by kernel_rfl) (Xg.opx_pure ((Value.bool false)) rfl (fun _ => by kernel_rfl) ?_)
          refine Xg.ops_op (by kernel_rfl) (Xg.opx_pure ((Value.slice a n c)) rfl (fun _ => by kernel_rfl) ?_)
          refine Xg.ops_op (by kernel_rfl) (Xg.opx_pure ((iv (↑n : Int))) rfl (fun _ => by kernel_rfl) ?_)
          refine Xg.ops_op (by kernel_rfl) (Xg.opx_pure ((iv bn)) rfl (fun _ => by kernel_rfl) ?_)
          refine Xg.ops_op (by kernel_rfl) (Xg.opx_int .i64 (IntKind.wrap .i64 (((16384 : Int) * bn))) rfl (fun _ => by kernel_rfl) (Xg.wrap_i64_in (by omega)) ?_)
          refine Xg.ops_op (by kernel_rfl) (Xg.opx_pure (.bool (!decide ((((↑n : Int)) : Int) = ((16384 : Int) * bn)))) rfl (fun _ => by kernel_rfl) ?_)
          refine Xg.ops_flag (j := 94) (c := (!decide ((↑n : Int) = (16384 : Int) * bn))) (by kernel_rfl) (fun _ => ?_) (fun xh2 => absurd xh2 (by rw [decide_eq_false (p := ((↑n : Int) = (16384 : Int) * bn)) (by omega)]; decide))
          refine Xg.ops_op (by kernel_rfl) (Xg.opx_pure ((Value.bool true)) rfl (fun _ => by kernel_rfl) ?_)
          refine Xg.ops_nil ?_
          refine Xg.at_true (t := true) (by kernel_rfl) rfl ?_
          refine Xg.at_seq ?_
          refine Xg.at_region ?_
          refine Xg.ops_op (by kernel_rfl) (Xg.opx_loadn (off := 0) 6 3 [Value.string (St []), iv 0, iv 0, iv 0, iv 0, Value.bool false] (by kernel_rfl) rfl (by kernel_rfl) rfl (Xg.cells_at (by kernel_rfl)) (by kernel_rfl) ?_)
          refine Xg.ops_op (by kernel_rfl) (Xg.opx_storen 6 (off := 0) 4 [Value.string (St []), iv 0, iv 0, iv 0, iv 0, Value.bool false] (by kernel_rfl) rfl (by kernel_rfl) (by kernel_rfl) rfl (by kernel_rfl) (Nat.le_of_ble_eq_true (by kernel_rfl)) ?_)
          refine Xg.ops_op (by kernel_rfl) (Xg.opx_pure ((iv 46)) rfl (fun _ => by kernel_rfl) ?_)
          refine Xg.ops_nil ?_
          refine Xg.at_ret_feed (v := (Value.tuple #[Value.agg #[Value.string (St []), iv 0, iv 0, iv 0, iv 0, Value.bool false], iv 46])) [(Addr.mk xb1 (0 : Nat) none), (Addr.mk xb1 (1 : Nat) none), (Addr.mk xb1 (2 : Nat) none), (Addr.mk xb1 (3 : Nat) none), (Addr.mk xb1 (4 : Nat) none), (Addr.mk xb1 (5 : Nat) none)] [Value.string (St []), iv 0, iv 0, iv 0, iv 0, Value.bool false] [2] [A] Go.Proofs.Try.func25 (by kernel_rfl) (Xg.cells_cons (b := xb1) (off := 0) 4 rfl (by kernel_rfl) (Xg.cells_cons (b := xb1) (off := 1) 4 rfl (by kernel_rfl) (Xg.cells_cons (b := xb1) (off := 2) 4 rfl (by kernel_rfl) (Xg.cells_cons (b := xb1) (off := 3) 4 rfl (by kernel_rfl) (Xg.cells_cons (b := xb1) (off := 4) 4 rfl (by kernel_rfl) (Xg.cells_cons (b := xb1) (off := 5) 4 rfl (by kernel_rfl) Xg.cells_nil)))))) (by kernel_rfl) (by kernel_rfl) ?_
          exact ⟨by kernel_rfl, by kernel_rfl⟩)
      rw [if_neg (by omega)] at hck
      (focus
        refine Xg.at_seq ?_
        refine Xg.at_seq ?_
        refine Xg.at_region ?_
        refine Xg.ops_op (by kernel_rfl) (Xg.opx_pure ((iv (↑j : Int))) rfl (fun _ => by kernel_rfl) ?_)
        refine Xg.ops_op (by kernel_rfl) (Xg.opx_pure ((Value.slice a n c)) rfl (fun _ => by kernel_rfl) ?_)
        refine Xg.ops_op (by kernel_rfl) (Xg.opx_rd 2 (.pointer (some (Addr.mk (Xg.blk a) (offA a + (328 : Nat)) none))) rfl hR (by kernel_rfl) (Xg.run_ix_rd (elem := 5) (kd := .i64) (e := ((328 : Int))) 1 ((328 : Nat)) (offA a + (328 : Nat)) (by kernel_rfl) (by kernel_rfl) (by kernel_rfl) (by kernel_rfl) rfl (by omega) (by simp only [List.length_map]; omega) (by omega)) ?_)
        refine Xg.ops_op (by kernel_rfl) (Xg.opx_rd 2 (uv (B.getD (328 : Nat) (0 : Int))) rfl hR (by kernel_rfl) (Xg.run_load_rd (off0 := (offA a + (328 : Nat))) ((328 : Nat)) (by kernel_rfl) (by omega) (Xg.get_ints (by omega)) (by kernel_rfl)) ?_)
        refine Xg.ops_op (by kernel_rfl) (Xg.opx_int .i64 (IntKind.wrap .i64 ((B.getD (328 : Nat) (0 : Int)))) rfl (fun _ => by kernel_rfl) (Xg.wrap_i64_in (by omega)) ?_)
        refine Xg.ops_op (by kernel_rfl) (Xg.opx_pure (.bool (decide ((((↑j : Int)) : Int) < (B.getD (328 : Nat) (0 : Int))))) rfl (fun _ => by kernel_rfl) ?_)
        refine Xg.ops_op (by kernel_rfl) (Xg.opx_pure ((Value.bool (decide ((↑j : Int) < B.getD (328 : Nat) (0 : Int))))) rfl (fun _ => by kernel_rfl) ?_)
        refine Xg.ops_flag (j := 71) (c := (decide ((↑j : Int) < B.getD (328 : Nat) (0 : Int)))) (by kernel_rfl) (fun xh2 => absurd (of_decide_eq_true xh2) (by omega)) (fun _ => ?_)
        refine Xg.ops_skip (by kernel_rfl) ?_
        refine Xg.ops_skip (by kernel_rfl) ?_
        refine Xg.ops_op (by kernel_rfl) (Xg.opx_pure ((Value.bool false)) rfl (fun _ => by kernel_rfl) ?_)
        refine Xg.ops_nil ?_
        refine Xg.at_false (t := false) (by kernel_rfl) rfl ?_
        refine Xg.at_exit rfl ?_
        refine Xg.at_seq ?_
        refine Xg.at_seq ?_
        refine Xg.at_region ?_
        refine Xg.ops_op (by kernel_rfl) (Xg.opx_pure ((Value.slice a n c)) rfl (fun _ => by kernel_rfl) ?_)
        refine Xg.ops_op (by kernel_rfl) (Xg.opx_rd 2 (.pointer (some (Addr.mk (Xg.blk a) (offA a + (328 : Nat)) none))) rfl hR (by kernel_rfl) (Xg.run_ix_rd (elem := 5) (kd := .i64) (e := ((328 : Int))) 1 ((328 : Nat)) (offA a + (328 : Nat)) (by kernel_rfl) (by kernel_rfl) (by kernel_rfl) (by kernel_rfl) rfl (by omega) (by simp only [List.length_map]; omega) (by omega)) ?_)
        refine Xg.ops_op (by kernel_rfl) (Xg.opx_rd 2 (uv (B.getD (328 : Nat) (0 : Int))) rfl hR (by kernel_rfl) (Xg.run_load_rd (off0 := (offA a + (328 : Nat))) ((328 : Nat)) (by kernel_rfl) (by omega) (Xg.get_ints (by omega)) (by kernel_rfl)) ?_)
        refine Xg.ops_op (by kernel_rfl) (Xg.opx_pure (.bool (decide (((B.getD (328 : Nat) (0 : Int)) : Int) > ((6 : Int))))) rfl (fun _ => by kernel_rfl) ?_)
        refine Xg.ops_op (by kernel_rfl) (Xg.opx_pure ((Value.bool (decide (B.getD (328 : Nat) (0 : Int) > (6 : Int))))) rfl (fun _ => by kernel_rfl) ?_)
        refine Xg.ops_flag (j := 83) (c := (decide (B.getD (328 : Nat) (0 : Int) > (6 : Int)))) (by kernel_rfl) (fun xh2 => absurd (of_decide_eq_true xh2) (by omega)) (fun _ => ?_)
        refine Xg.ops_op (by kernel_rfl) (Xg.opx_pure ((iv bn)) rfl (fun _ => by kernel_rfl) ?_)
        refine Xg.ops_op (by kernel_rfl) (Xg.opx_pure ((pv xb3 1)) rfl (fun _ => by kernel_rfl) ?_)
        refine Xg.ops_op (by kernel_rfl) (Xg.opx_load (b := xb3) (off := ((1 : Nat))) 0 (iv k'.bk) rfl (by kernel_rfl) (by kernel_rfl) (by kernel_rfl) ?_)
        refine Xg.ops_op (by kernel_rfl) (Xg.opx_pure (.bool (decide ((bn : Int) > k'.bk))) rfl (fun _ => by kernel_rfl) ?_)
        refine Xg.ops_flag (j := 87) (c := (decide (bn > k'.bk))) (by kernel_rfl) (fun xh2 => absurd (of_decide_eq_true xh2) (by omega)) (fun _ => ?_)
        refine Xg.ops_op (by kernel_rfl) (Xg.opx_pure ((Value.bool false)) rfl (fun _ => by kernel_rfl) ?_)
        refine Xg.ops_op (by kernel_rfl) (Xg.opx_pure ((Value.bool false)) rfl (fun _ => by kernel_rfl) ?_)
        refine Xg.ops_op (by kernel_rfl) (Xg.opx_pure ((Value.slice a n c)) rfl (fun _ => by kernel_rfl) ?_)
        refine Xg.ops_op (by kernel_rfl) (Xg.opx_pure ((iv (↑n : Int))) rfl (fun _ => by kernel_rfl) ?_)
        refine Xg.ops_op (by kernel_rfl) (Xg.opx_pure ((iv bn)) rfl (fun _ => by kernel_rfl) ?_)
        refine Xg.ops_op (by kernel_rfl) (Xg.opx_int .i64 (IntKind.wrap .i64 (((16384 : Int) * bn))) rfl (fun _ => by kernel_rfl) (Xg.wrap_i64_in (by omega)) ?_)
        refine Xg.ops_op (by kernel_rfl) (Xg.opx_pure (.bool (!decide ((((↑n : Int)) : Int) = ((16384 : Int) * bn)))) rfl (fun _ => by kernel_rfl) ?_)
        refine Xg.ops_flag (j := 94) (c := (!decide ((↑n : Int) = (16384 : Int) * bn))) (by kernel_rfl) (fun xh2 => absurd xh2 (by rw [decide_eq_true (p := ((↑n : Int) = (16384 : Int) * bn)) (by omega)]; decide)) (fun _ => ?_)
        refine Xg.ops_op (by kernel_rfl) (Xg.opx_pure ((Value.bool false)) rfl (fun _ => by kernel_rfl) ?_)
        refine Xg.ops_nil ?_
        refine Xg.at_false (t := false) (by kernel_rfl) rfl ?_
        refine Xg.at_skip ?_
        refine Xg.at_seq ?_
        refine Xg.at_region ?_
        refine Xg.ops_op (by kernel_rfl) (Xg.opx_pure ((Value.slice a n c)) rfl (fun _ => by kernel_rfl) ?_)
        refine Xg.ops_op (by kernel_rfl) (Xg.opx_rd 2 (.pointer (some (Addr.mk (Xg.blk a) (offA a + (329 : Nat)) none))) rfl hR (by kernel_rfl) (Xg.run_ix_rd (elem := 5) (kd := .i64) (e := ((329 : Int))) 1 ((329 : Nat)) (offA a + (329 : Nat)) (by kernel_rfl) (by kernel_rfl) (by kernel_rfl) (by kernel_rfl) rfl (by omega) (by simp only [List.length_map]; omega) (by omega)) ?_)
        refine Xg.ops_op (by kernel_rfl) (Xg.opx_rd 2 (uv (B.getD (329 : Nat) (0 : Int))) rfl hR (by kernel_rfl) (Xg.run_load_rd (off0 := (offA a + (329 : Nat))) ((329 : Nat)) (by kernel_rfl) (by omega) (Xg.get_ints (by omega)) (by kernel_rfl)) ?_)
        refine Xg.ops_op (by kernel_rfl) (Xg.opx_int .i64 (IntKind.wrap .i64 ((B.getD (329 : Nat) (0 : Int)))) rfl (fun _ => by kernel_rfl) (Xg.wrap_i64_in (by omega)) ?_)
        refine Xg.ops_op (by kernel_rfl) (Xg.opx_pure ((iv (B.getD (329 : Nat) (0 : Int)))) rfl (fun _ => by kernel_rfl) ?_)
        refine Xg.ops_nil ?_
        refine Xg.at_seq ?_
        refine Xg.at_region ?_
        refine Xg.ops_op (by kernel_rfl) (Xg.opx_pure ((Value.bool false)) rfl (fun _ => by kernel_rfl) ?_)
        refine Xg.ops_nil ?_
        refine Xg.at_seq ?_
        refine Xg.at_seq ?_
        refine Xg.at_region ?_
        refine Xg.ops_op (by kernel_rfl) (Xg.opx_pure ((iv 0)) rfl (fun _ => by kernel_rfl) ?_)
        refine Xg.ops_nil ?_
        refine Xg.at_block ?_)
      (focus
        refine Xg.at_rounds_inv (α := (Nat × Bool) × (Nat → Value)) (fun x => ((fun x => x.1 ≤ k'.cl.length ∧ x.2 = decide (B.getD 329 0 ∈ k'.cl.take x.1)) : (Nat × Bool) → Prop) x.1) (fun x => ((fun x => k'.cl.length - x.1) : (Nat × Bool) → Nat) x.1) (fun x => Xg.headT [Value.slice a n c, tu, pv xb1 0, J0 3, pv xb2 0, iv (↑i : Int), uv (((231 : Int) - hsum B (25 : Nat)) % (256 : Int)), iv (B.getD (327 : Nat) (0 : Int)), pv xb3 0, Value.bool true, iv bn, iv (↑j : Int), iv (B.getD (329 : Nat) (0 : Int)), Value.bool false, iv 0, tu, tu, tu, Value.slice a n c, iv (↑n : Int), Value.bool (decide ((↑n : Int) < (32768 : Int))), Value.bool false, Value.slice a n c, iv (↑n : Int), Value.bool false, Value.bool false, tu, iv (↑i : Int), Value.bool (decide ((↑i : Int) < (48 : Int))), J0 29, J0 30, J0 31, J0 32, J0 33, J0 34, J0 35, J0 36, J0 37, J0 38, J0 39, Value.slice a n c, uv (((231 : Int) - hsum B (25 : Nat)) % (256 : Int)), Value.slice a n c, Value.pointer (some (Addr.mk (blk a) (offA a + (333 : Nat)) none)), uv (B.getD (333 : Nat) (0 : Int)), uv (((231 : Int) - hsum B (25 : Nat)) % (256 : Int)), Value.bool !decide (B.getD (333 : Nat) (0 : Int) = ((231 : Int) - hsum B (25 : Nat)) % (256 : Int)), tu, Value.slice a n c, Value.pointer (some (Addr.mk (blk a) (offA a + (323 : Nat)) none)), uv (B.getD (323 : Nat) (0 : Int)), Value.bool (decide (B.getD (323 : Nat) (0 : Int) = (192 : Int))), tu, Value.slice a n c, Value.pointer (some (Addr.mk (blk a) (offA a + (327 : Nat)) none)), uv (B.getD (327 : Nat) (0 : Int)), iv (B.getD (327 : Nat) (0 : Int)), Value.tuple #[Value.agg #[iv k'.mp, iv k'.bk, Value.slice xx1 k'.cl.length k'.cl.length, Value.bool k'.bt], Value.bool true], iv (B.getD (327 : Nat) (0 : Int)), Value.tuple #[Value.agg #[iv k'.mp, iv k'.bk, Value.slice xx1 k'.cl.length k'.cl.length, Value.bool k'.bt], Value.bool true], Value.agg #[iv k'.mp, iv k'.bk, Value.slice xx1 k'.cl.length k'.cl.length, Value.bool k'.bt], Value.bool true, Value.bool true, Value.bool false, tu, iv (↑j : Int), Value.slice a n c, Value.pointer (some (Addr.mk (blk a) (offA a + (328 : Nat)) none)), uv (B.getD (328 : Nat) (0 : Int)), iv (B.getD (328 : Nat) (0 : Int)), Value.bool (decide ((↑j : Int) < B.getD (328 : Nat) (0 : Int))), Value.bool false, tu, tu, Value.bool false, J1 75, J1 76, J1 77, J1 78, Value.slice a n c, Value.pointer (some (Addr.mk (blk a) (offA a + (328 : Nat)) none)), uv (B.getD (328 : Nat) (0 : Int)), Value.bool (decide (B.getD (328 : Nat) (0 : Int) > (6 : Int))), Value.bool false, iv bn, pv xb3 1, iv k'.bk, Value.bool false, Value.bool false, Value.bool false, Value.slice a n c, iv (↑n : Int), iv bn, iv ((16384 : Int) * bn), Value.bool false, Value.bool false, tu, Value.slice a n c, Value.pointer (some (Addr.mk (blk a) (offA a + (329 : Nat)) none)), uv (B.getD (329 : Nat) (0 : Int)), iv (B.getD (329 : Nat) (0 : Int)), tu, tu, tu, tu, tu, tu, tu, tu, tu, tu, tu, tu, tu, tu, tu, tu, tu, tu, tu, tu, tu, tu, tu, tu, tu, tu, tu, tu, tu, tu, tu, tu, tu, tu, tu, tu, tu, tu, tu, tu, tu, tu, tu, tu, tu, tu, tu, tu, tu, tu, tu, tu, tu] [101, 102, 103, 104, 105, 106, 107, 108, 109, 110, 111, 112, 113, 114, 115, 116, 117] (((fun x => [(13, .bool x.2), (14, .int .i64 (x.1 : Nat))]) : (Nat × Bool) → List (Nat × Go.Value)) x.1) x.2) (fun x => ((fun x => [row xb3 93 [.int .i64 k'.mp, .int .i64 k'.bk, .slice xx1 k'.cl.length k'.cl.length, .bool k'.bt], ownS 3 1 (.slice xx1 k'.cl.length k'.cl.length) k'.cl.length (k'.cl.map (Value.int .i64)), A, row xb2 34 [.string (St []), .int .i64 0, .int .i64 0, .int .i64 0, .int .i64 0, .bool false], row xb1 34 [.string (St []), .int .i64 0, .int .i64 0, .int .i64 0, .int .i64 0, .bool false]]) : (Nat × Bool) → List Go.Sl.HP) x.1) (((0, false)), fun j9 => ([Value.slice a n c, tu, pv xb1 0, J0 3, pv xb2 0, iv (↑i : Int), uv (((231 : Int) - hsum B (25 : Nat)) % (256 : Int)), iv (B.getD (327 : Nat) (0 : Int)), pv xb3 0, Value.bool true, iv bn, iv (↑j : Int), iv (B.getD (329 : Nat) (0 : Int)), Value.bool false, iv 0, tu, tu, tu, Value.slice a n c, iv (↑n : Int), Value.bool (decide ((↑n : Int) < (32768 : Int))), Value.bool false, Value.slice a n c, iv (↑n : Int), Value.bool false, Value.bool false, tu, iv (↑i : Int), Value.bool (decide ((↑i : Int) < (48 : Int))), J0 29, J0 30, J0 31, J0 32, J0 33, J0 34, J0 35, J0 36, J0 37, J0 38, J0 39, Value.slice a n c, uv (((231 : Int) - hsum B (25 : Nat)) % (256 : Int)), Value.slice a n c, Value.pointer (some (Addr.mk (blk a) (offA a + (333 : Nat)) none)), uv (B.getD (333 : Nat) (0 : Int)), uv (((231 : Int) - hsum B (25 : Nat)) % (256 : Int)), Value.bool !decide (B.getD (333 : Nat) (0 : Int) = ((231 : Int) - hsum B (25 : Nat)) % (256 : Int)), tu, Value.slice a n c, Value.pointer (some (Addr.mk (blk a) (offA a + (323 : Nat)) none)), uv (B.getD (323 : Nat) (0 : Int)), Value.bool (decide (B.getD (323 : Nat) (0 : Int) = (192 : Int))), tu, Value.slice a n c, Value.pointer (some (Addr.mk (blk a) (offA a + (327 : Nat)) none)), uv (B.getD (327 : Nat) (0 : Int)), iv (B.getD (327 : Nat) (0 : Int)), Value.tuple #[Value.agg #[iv k'.mp, iv k'.bk, Value.slice xx1 k'.cl.length k'.cl.length, Value.bool k'.bt], Value.bool true], iv (B.getD (327 : Nat) (0 : Int)), Value.tuple #[Value.agg #[iv k'.mp, iv k'.bk, Value.slice xx1 k'.cl.length k'.cl.length, Value.bool k'.bt], Value.bool true], Value.agg #[iv k'.mp, iv k'.bk, Value.slice xx1 k'.cl.length k'.cl.length, Value.bool k'.bt], Value.bool true, Value.bool true, Value.bool false, tu, iv (↑j : Int), Value.slice a n c, Value.pointer (some (Addr.mk (blk a) (offA a + (328 : Nat)) none)), uv (B.getD (328 : Nat) (0 : Int)), iv (B.getD (328 : Nat) (0 : Int)), Value.bool (decide ((↑j : Int) < B.getD (328 : Nat) (0 : Int))), Value.bool false, tu, tu, Value.bool false, J1 75, J1 76, J1 77, J1 78, Value.slice a n c, Value.pointer (some (Addr.mk (blk a) (offA a + (328 : Nat)) none)), uv (B.getD (328 : Nat) (0 : Int)), Value.bool (decide (B.getD (328 : Nat) (0 : Int) > (6 : Int))), Value.bool false, iv bn, pv xb3 1, iv k'.bk, Value.bool false, Value.bool false, Value.bool false, Value.slice a n c, iv (↑n : Int), iv bn, iv ((16384 : Int) * bn), Value.bool false, Value.bool false, tu, Value.slice a n c, Value.pointer (some (Addr.mk (blk a) (offA a + (329 : Nat)) none)), uv (B.getD (329 : Nat) (0 : Int)), iv (B.getD (329 : Nat) (0 : Int)), tu, tu, tu, tu, tu, tu, tu, tu, tu, tu, tu, tu, tu, tu, tu, tu, tu, tu, tu, tu, tu, tu, tu, tu, tu, tu, tu, tu, tu, tu, tu, tu, tu, tu, tu, tu, tu, tu, tu, tu, tu, tu, tu, tu, tu, tu, tu, tu, tu, tu, tu, tu, tu] : List Value).getD j9 undef) (by kernel_rfl) (by kernel_rfl) ?_ ?_)
      · exact ⟨Nat.zero_le _, by show false = decide (B.getD 329 0 ∈ k'.cl.take 0); simp⟩
      rintro ⟨⟨p, ft⟩, J2⟩ hI ih
      obtain ⟨hp, hft⟩ := hI
      dsimp only at hp hft
      (focus
        refine Xg.At.same (T' := [Value.slice a n c, tu, pv xb1 0, J0 3, pv xb2 0, iv (↑i : Int), uv (((231 : Int) - hsum B (25 : Nat)) % (256 : Int)), iv (B.getD (327 : Nat) (0 : Int)), pv xb3 0, Value.bool true, iv bn, iv (↑j : Int), iv (B.getD (329 : Nat) (0 : Int)), Value.bool ft, iv (↑p : Int), tu, tu, tu, Value.slice a n c, iv (↑n : Int), Value.bool (decide ((↑n : Int) < (32768 : Int))), Value.bool false, Value.slice a n c, iv (↑n : Int), Value.bool false, Value.bool false, tu, iv (↑i : Int), Value.bool (decide ((↑i : Int) < (48 : Int))), J0 29, J0 30, J0 31, J0 32, J0 33, J0 34, J0 35, J0 36, J0 37, J0 38, J0 39, Value.slice a n c, uv (((231 : Int) - hsum B (25 : Nat)) % (256 : Int)), Value.slice a n c, Value.pointer (some (Addr.mk (blk a) (offA a + (333 : Nat)) none)), uv (B.getD (333 : Nat) (0 : Int)), uv (((231 : Int) - hsum B (25 : Nat)) % (256 : Int)), Value.bool !decide (B.getD (333 : Nat) (0 : Int) = ((231 : Int) - hsum B (25 : Nat)) % (256 : Int)), tu, Value.slice a n c, Value.pointer (some (Addr.mk (blk a) (offA a + (323 : Nat)) none)), uv (B.getD (323 : Nat) (0 : Int)), Value.bool (decide (B.getD (323 : Nat) (0 : Int) = (192 : Int))), tu, Value.slice a n c, Value.pointer (some (Addr.mk (blk a) (offA a + (327 : Nat)) none)), uv (B.getD (327 : Nat) (0 : Int)), iv (B.getD (327 : Nat) (0 : Int)), Value.tuple #[Value.agg #[iv k'.mp, iv k'.bk, Value.slice xx1 k'.cl.length k'.cl.length, Value.bool k'.bt], Value.bool true], iv (B.getD (327 : Nat) (0 : Int)), Value.tuple #[Value.agg #[iv k'.mp, iv k'.bk, Value.slice xx1 k'.cl.length k'.cl.length, Value.bool k'.bt], Value.bool true], Value.agg #[iv k'.mp, iv k'.bk, Value.slice xx1 k'.cl.length k'.cl.length, Value.bool k'.bt], Value.bool true, Value.bool true, Value.bool false, tu, iv (↑j : Int), Value.slice a n c, Value.pointer (some (Addr.mk (blk a) (offA a + (328 : Nat)) none)), uv (B.getD (328 : Nat) (0 : Int)), iv (B.getD (328 : Nat) (0 : Int)), Value.bool (decide ((↑j : Int) < B.getD (328 : Nat) (0 : Int))), Value.bool false, tu, tu, Value.bool false, J1 75, J1 76, J1 77, J1 78, Value.slice a n c, Value.pointer (some (Addr.mk (blk a) (offA a + (328 : Nat)) none)), uv (B.getD (328 : Nat) (0 : Int)), Value.bool (decide (B.getD (328 : Nat) (0 : Int) > (6 : Int))), Value.bool false, iv bn, pv xb3 1, iv k'.bk, Value.bool false, Value.bool false, Value.bool false, Value.slice a n c, iv (↑n : Int), iv bn, iv ((16384 : Int) * bn), Value.bool false, Value.bool false, tu, Value.slice a n c, Value.pointer (some (Addr.mk (blk a) (offA a + (329 : Nat)) none)), uv (B.getD (329 : Nat) (0 : Int)), iv (B.getD (329 : Nat) (0 : Int)), J2 101, J2 102, J2 103, J2 104, J2 105, J2 106, J2 107, J2 108, J2 109, J2 110, J2 111, J2 112, J2 113, J2 114, J2 115, J2 116, J2 117, tu, tu, tu, tu, tu, tu, tu, tu, tu, tu, tu, tu, tu, tu, tu, tu, tu, tu, tu, tu, tu, tu, tu, tu, tu, tu, tu, tu, tu, tu, tu, tu, tu, tu, tu, tu]) (L' := [row xb3 (93 : TypeId) [iv k'.mp, iv k'.bk, Value.slice xx1 k'.cl.length k'.cl.length, Value.bool k'.bt], ownS (3 : TypeId) (1 : Nat) (Value.slice xx1 k'.cl.length k'.cl.length) k'.cl.length (List.map (Value.int IntKind.i64) k'.cl), A, row xb2 (34 : TypeId) [Value.string (St []), iv 0, iv 0, iv 0, iv 0, Value.bool false], row xb1 (34 : TypeId) [Value.string (St []), iv 0, iv 0, iv 0, iv 0, Value.bool false]]) (by kernel_rfl) rfl ?_)
      by_cases hlt4 : p < k'.cl.length
      · have hts := take_mem k'.cl p (B.getD 329 0) hlt4
        cases ft with
        | true =>
          (focus
            refine Xg.at_seq ?_
            refine Xg.at_seq ?_
            refine Xg.at_region ?_
            refine Xg.ops_op (by kernel_rfl) (Xg.opx_pure ((iv (↑p : Int))) rfl (fun _ => by kernel_rfl) ?_)
            refine Xg.ops_op (by kernel_rfl) (Xg.opx_pure ((pv xb3 2)) rfl (fun _ => by kernel_rfl) ?_)
            refine Xg.ops_op (by kernel_rfl) (Xg.opx_load (b := xb3) (off := ((2 : Nat))) 0 (Value.slice xx1 k'.cl.length k'.cl.length) rfl (by kernel_rfl) (by kernel_rfl) (by kernel_rfl) ?_)
            refine Xg.ops_op (by kernel_rfl) (Xg.opx_pure ((iv (↑k'.cl.length : Int))) rfl (fun _ => by kernel_rfl) ?_)
            refine Xg.ops_op (by kernel_rfl) (Xg.opx_pure (.bool (decide ((((↑p : Int)) : Int) < ((↑k'.cl.length : Int))))) rfl (fun _ => by kernel_rfl) ?_)
            refine Xg.ops_nil ?_
            refine Xg.at_true (t := decide (((↑p : Int) < (↑k'.cl.length : Int)))) (by kernel_rfl) (decide_eq_true (by omega)) ?_
            refine Xg.at_skip ?_
            refine Xg.at_seq ?_
            refine Xg.at_block ?_
            refine Xg.at_region ?_
            refine Xg.ops_op (by kernel_rfl) (Xg.opx_pure ((Value.bool true)) rfl (fun _ => by kernel_rfl) ?_)
            refine Xg.ops_op (by kernel_rfl) (Xg.opx_pure ((Value.bool true)) rfl (fun _ => by kernel_rfl) ?_)
            refine Xg.ops_skip (by kernel_rfl) ?_
            refine Xg.ops_skip (by kernel_rfl) ?_
            refine Xg.ops_skip (by kernel_rfl) ?_
            refine Xg.ops_skip (by kernel_rfl) ?_
            refine Xg.ops_skip (by kernel_rfl) ?_
            refine Xg.ops_skip (by kernel_rfl) ?_
            refine Xg.ops_skip (by kernel_rfl) ?_
            refine Xg.ops_op (by kernel_rfl) (Xg.opx_pure ((Value.bool true)) rfl (fun _ => by kernel_rfl) ?_)
            refine Xg.ops_op (by kernel_rfl) (Xg.opx_pure ((Value.bool true)) rfl (fun _ => by kernel_rfl) ?_)
            refine Xg.ops_nil ?_
            refine Xg.at_inBlock ?_
            refine Xg.at_region ?_
            refine Xg.ops_op (by kernel_rfl) (Xg.opx_pure ((iv (↑p : Int))) rfl (fun _ => by kernel_rfl) ?_)
            refine Xg.ops_op (by kernel_rfl) (Xg.opx_int .i64 (IntKind.wrap .i64 (((↑p : Int) + (1 : Int)))) rfl (fun _ => by kernel_rfl) (Xg.wrap_i64_in (by omega)) ?_)
            refine Xg.ops_op (by kernel_rfl) (Xg.opx_pure ((iv ((↑p : Int) + (1 : Int)))) rfl (fun _ => by kernel_rfl) ?_)
            refine Xg.ops_nil ?_
            refine Xg.at_inLoop ?_)
          (focus
            refine Xg.at_keep [0, 1, 2, 3, 4] (by kernel_rfl) ?_
            refine Xs.same ?_ (fun J9 => ih (((p + 1, true)), J9) ?_ ?_) (by kernel_rfl))
          · rfl
          · refine ⟨hlt4, ?_⟩
            show true = decide (B.getD 329 0 ∈ k'.cl.take (p + 1))
            rw [hts, ← hft]; rfl
          · show k'.cl.length - (p + 1) < k'.cl.length - p; omega
        | false =>
          by_cases he : k'.cl.getD p 0 = B.getD 329 0
          · rw [← hft, decide_eq_true he] at hts
            (focus
              refine Xg.at_seq ?_
              refine Xg.at_seq ?_
              refine Xg.at_region ?_
              refine Xg.ops_op (by kernel_rfl) (Xg.opx_pure ((iv (↑p : Int))) rfl (fun _ => by kernel_rfl) ?_)
              refine Xg.ops_op (by kernel_rfl) (Xg.opx_pure ((pv xb3 2)) rfl (fun _ => by kernel_rfl) ?_)
              refine Xg.ops_op (by kernel_rfl) (Xg.opx_load (b := xb3) (off := ((2 : Nat))) 0 (Value.slice xx1 k'.cl.length k'.cl.length) rfl (by kernel_rfl) (by kernel_rfl) (by kernel_rfl) ?_)
              refine Xg.ops_op (by kernel_rfl) (Xg.opx_pure ((iv (↑k'.cl.length : Int))) rfl (fun _ => by kernel_rfl) ?_)
              refine Xg.ops_op (by kernel_rfl) (Xg.opx_pure (.bool (decide ((((↑p : Int)) : Int) < ((↑k'.cl.length : Int))))) rfl (fun _ => by kernel_rfl) ?_)
              refine Xg.ops_nil ?_
              refine Xg.at_true (t := decide (((↑p : Int) < (↑k'.cl.length : Int)))) (by kernel_rfl) (decide_eq_true (by omega)) ?_
              refine Xg.at_skip ?_
              refine Xg.at_seq ?_
              refine Xg.at_block ?_
              refine Xg.at_region ?_
              refine Xg.ops_op (by kernel_rfl) (Xg.opx_pure ((Value.bool false)) rfl (fun _ => by kernel_rfl) ?_)
              refine Xg.ops_op (by kernel_rfl) (Xg.opx_pure ((Value.bool false)) rfl (fun _ => by kernel_rfl) ?_)
              refine Xg.ops_op (by kernel_rfl) (Xg.opx_pure ((pv xb3 2)) rfl (fun _ => by kernel_rfl) ?_)
              refine Xg.ops_op (by kernel_rfl) (Xg.opx_load (b := xb3) (off := ((2 : Nat))) 0 (Value.slice xx1 k'.cl.length k'.cl.length) rfl (by kernel_rfl) (by kernel_rfl) (by kernel_rfl) ?_)
              refine Xg.ops_op (by kernel_rfl) (Xg.opx_pure ((iv (↑p : Int))) rfl (fun _ => by kernel_rfl) ?_)
              refine Xg.ops_op (by kernel_rfl) (Xg.opx_ix_own (elem := 3) (kd := .i64) (e := ((↑p : Int))) 1 1 p p rfl (by kernel_rfl) (by kernel_rfl) (by kernel_rfl) (by kernel_rfl) rfl (by omega) (by omega) ?_)
              refine Xg.ops_op (by kernel_rfl) (Xg.opx_load_own (a := xx1) (off := p) 1 (iv (k'.cl.getD p (0 : Int))) rfl (by kernel_rfl) (Xg.get_ints (by omega)) (by kernel_rfl) ?_)
              refine Xg.ops_op (by kernel_rfl) (Xg.opx_pure ((iv (B.getD (329 : Nat) (0 : Int)))) rfl (fun _ => by kernel_rfl) ?_)
              refine Xg.ops_op (by kernel_rfl) (Xg.opx_pure (.bool (decide (((k'.cl.getD p (0 : Int)) : Int) = (B.getD (329 : Nat) (0 : Int))))) rfl (fun _ => by kernel_rfl) ?_)
              refine Xg.ops_flag (j := 116) (c := (decide (k'.cl.getD p (0 : Int) = B.getD (329 : Nat) (0 : Int)))) (by kernel_rfl) (fun _ => ?_) (fun xh2 => absurd (of_decide_eq_false xh2) (by omega))
              refine Xg.ops_op (by kernel_rfl) (Xg.opx_pure ((Value.bool true)) rfl (fun _ => by kernel_rfl) ?_)
              refine Xg.ops_op (by kernel_rfl) (Xg.opx_pure ((Value.bool true)) rfl (fun _ => by kernel_rfl) ?_)
              refine Xg.ops_nil ?_
              refine Xg.at_inBlock ?_
              refine Xg.at_region ?_
              refine Xg.ops_op (by kernel_rfl) (Xg.opx_pure ((iv (↑p : Int))) rfl (fun _ => by kernel_rfl) ?_)
              refine Xg.ops_op (by kernel_rfl) (Xg.opx_int .i64 (IntKind.wrap .i64 (((↑p : Int) + (1 : Int)))) rfl (fun _ => by kernel_rfl) (Xg.wrap_i64_in (by omega)) ?_)
              refine Xg.ops_op (by kernel_rfl) (Xg.opx_pure ((iv ((↑p : Int) + (1 : Int)))) rfl (fun _ => by kernel_rfl) ?_)
              refine Xg.ops_nil ?_
              refine Xg.at_inLoop ?_)
            (focus
              refine Xg.at_keep [0, 1, 2, 3, 4] (by kernel_rfl) ?_
              refine Xs.same ?_ (fun J9 => ih (((p + 1, true)), J9) ?_ ?_) (by kernel_rfl))
            · rfl
            · exact ⟨hlt4, hts.symm⟩
            · show k'.cl.length - (p + 1) < k'.cl.length - p; omega
          · rw [← hft, decide_eq_false he] at hts
            (focus
              refine Xg.at_seq ?_
              refine Xg.at_seq ?_
              refine Xg.at_region ?_
              refine Xg.ops_op (by kernel_rfl) (Xg.opx_pure ((iv (↑p : Int))) rfl (fun _ => by kernel_rfl) ?_)
              refine Xg.ops_op (by kernel_rfl) (Xg.opx_pure ((pv xb3 2)) rfl (fun _ => by kernel_rfl) ?_)
              refine Xg.ops_op (by kernel_rfl) (Xg.opx_load (b := xb3) (off := ((2 : Nat))) 0 (Value.slice xx1 k'.cl.length k'.cl.length) rfl (by kernel_rfl) (by kernel_rfl) (by kernel_rfl) ?_)
              refine Xg.ops_op (by kernel_rfl) (Xg.opx_pure ((iv (↑k'.cl.length : Int))) rfl (fun _ => by kernel_rfl) ?_)
              refine Xg.ops_op (by kernel_rfl) (Xg.opx_pure (.bool (decide ((((↑p : Int)) : Int) < ((↑k'.cl.length : Int))))) rfl (fun _ => by kernel_rfl) ?_)
              refine Xg.ops_nil ?_
              refine Xg.at_true (t := decide (((↑p : Int) < (↑k'.cl.length : Int)))) (by kernel_rfl) (decide_eq_true (by omega)) ?_
              refine Xg.at_skip ?_
              refine Xg.at_seq ?_
              refine Xg.at_block ?_
              refine Xg.at_region ?_
              refine Xg.ops_op (by kernel_rfl) (Xg.opx_pure ((Value.bool false)) rfl (fun _ => by kernel_rfl) ?_)
              refine Xg.ops_op (by kernel_rfl) (Xg.opx_pure ((Value.bool false)) rfl (fun _ => by kernel_rfl) ?_)
              refine Xg.ops_op (by kernel_rfl) (Xg.opx_pure ((pv xb3 2)) rfl (fun _ => by kernel_rfl) ?_)
              refine Xg.ops_op (by kernel_rfl) (Xg.opx_load (b := xb3) (off := ((2 : Nat))) 0 (Value.slice xx1 k'.cl.length k'.cl.length) rfl (by kernel_rfl) (by kernel_rfl) (by kernel_rfl) ?_)
              refine Xg.ops_op (by kernel_rfl) (Xg.opx_pure ((iv (↑p : Int))) rfl (fun _ => by kernel_rfl) ?_)
              refine Xg.ops_op (by kernel_rfl) (Xg.opx_ix_own (elem := 3) (kd := .i64) (e := ((↑p : Int))) 1 1 p p rfl (by kernel_rfl) (by kernel_rfl) (by kernel_rfl) (by kernel_rfl) rfl (by omega) (by omega) ?_)
              refine Xg.ops_op (by kernel_rfl) (Xg.opx_load_own (a := xx1) (off := p) 1 (iv (k'.cl.getD p (0 : Int))) rfl (by kernel_rfl) (Xg.get_ints (by omega)) (by kernel_rfl) ?_)
              refine Xg.ops_op (by kernel_rfl) (Xg.opx_pure ((iv (B.getD (329 : Nat) (0 : Int)))) rfl (fun _ => by kernel_rfl) ?_)
              refine Xg.ops_op (by kernel_rfl) (Xg.opx_pure (.bool (decide (((k'.cl.getD p (0 : Int)) : Int) = (B.getD (329 : Nat) (0 : Int))))) rfl (fun _ => by kernel_rfl) ?_)
              refine Xg.ops_flag (j := 116) (c := (decide (k'.cl.getD p (0 : Int) = B.getD (329 : Nat) (0 : Int)))) (by kernel_rfl) (fun xh2 => absurd (of_decide_eq_true xh2) (by omega)) (fun _ => ?_)
              refine Xg.ops_op (by kernel_rfl) (Xg.opx_pure ((Value.bool false)) rfl (fun _ => by kernel_rfl) ?_)
              refine Xg.ops_op (by kernel_rfl) (Xg.opx_pure ((Value.bool false)) rfl (fun _ => by kernel_rfl) ?_)
              refine Xg.ops_nil ?_
              refine Xg.at_inBlock ?_
              refine Xg.at_region ?_
              refine Xg.ops_op (by kernel_rfl) (Xg.opx_pure ((iv (↑p : Int))) rfl (fun _ => by kernel_rfl) ?_)
              refine Xg.ops_op (by kernel_rfl) (Xg.opx_int .i64 (IntKind.wrap .i64 (((↑p : Int) + (1 : Int)))) rfl (fun _ => by kernel_rfl) (Xg.wrap_i64_in (by omega)) ?_)
              refine Xg.ops_op (by kernel_rfl) (Xg.opx_pure ((iv ((↑p : Int) + (1 : Int)))) rfl (fun _ => by kernel_rfl) ?_)
              refine Xg.ops_nil ?_
              refine Xg.at_inLoop ?_)
            (focus
              refine Xg.at_keep [0, 1, 2, 3, 4] (by kernel_rfl) ?_
              refine Xs.same ?_ (fun J9 => ih (((p + 1, false)), J9) ?_ ?_) (by kernel_rfl))
            · rfl
            · exact ⟨hlt4, hts.symm⟩
            · show k'.cl.length - (p + 1) < k'.cl.length - p; omega
      clear ih
      obtain rfl : k'.cl.length = p := by omega
      rw [List.take_length] at hft
      by_cases h7 : B.getD 329 0 ∉ k'.cl
      · rw [decide_eq_false h7] at hft
        rw [if_pos h7] at hck
        subst hft
        rw [hck]
        (focus
          refine Xg.at_seq ?_
          refine Xg.at_seq ?_
          refine Xg.at_region ?_
          refine Xg.ops_op (by kernel_rfl) (Xg.opx_pure ((iv (↑k'.cl.length : Int))) rfl (fun _ => by kernel_rfl) ?_)
          refine Xg.ops_op (by kernel_rfl) (Xg.opx_pure ((pv xb3 2)) rfl (fun _ => by kernel_rfl) ?_)
          refine Xg.ops_op (by kernel_rfl) (Xg.opx_load (b := xb3) (off := ((2 : Nat))) 0 (Value.slice xx1 k'.cl.length k'.cl.length) rfl (by kernel_rfl) (by kernel_rfl) (by kernel_rfl) ?_)
          refine Xg.ops_op (by kernel_rfl) (Xg.opx_pure ((iv (↑k'.cl.length : Int))) rfl (fun _ => by kernel_rfl) ?_)
          refine Xg.ops_op (by kernel_rfl) (Xg.opx_pure (.bool (decide ((((↑k'.cl.length : Int)) : Int) < ((↑k'.cl.length : Int))))) rfl (fun _ => by kernel_rfl) ?_)
          refine Xg.ops_nil ?_
          refine Xg.at_false (t := decide (((↑k'.cl.length : Int) < (↑k'.cl.length : Int)))) (by kernel_rfl) (decide_eq_false (by omega)) ?_
          refine Xg.at_exit rfl ?_
          refine Xg.at_seq ?_
          refine Xg.at_seq ?_
          refine Xg.at_region ?_
          refine Xg.ops_op (by kernel_rfl) (Xg.opx_pure ((Value.bool false)) rfl (fun _ => by kernel_rfl) ?_)
          refine Xg.ops_op (by kernel_rfl) (Xg.opx_pure (.bool true) rfl (fun _ => by kernel_rfl) ?_)
          refine Xg.ops_nil ?_
          refine Xg.at_true (t := true) (by kernel_rfl) rfl ?_
          refine Xg.at_seq ?_
          refine Xg.at_region ?_
          refine Xg.ops_op (by kernel_rfl) (Xg.opx_loadn (off := 0) 6 3 [Value.string (St []), iv 0, iv 0, iv 0, iv 0, Value.bool false] (by kernel_rfl) rfl (by kernel_rfl) rfl (Xg.cells_at (by kernel_rfl)) (by kernel_rfl) ?_)
          refine Xg.ops_op (by kernel_rfl) (Xg.opx_storen 6 (off := 0) 4 [Value.string (St []), iv 0, iv 0, iv 0, iv 0, Value.bool false] (by kernel_rfl) rfl (by kernel_rfl) (by kernel_rfl) rfl (by kernel_rfl) (Nat.le_of_ble_eq_true (by kernel_rfl)) ?_)
          refine Xg.ops_op (by kernel_rfl) (Xg.opx_pure ((iv 47)) rfl (fun _ => by kernel_rfl) ?_)
          refine Xg.ops_nil ?_
          refine Xg.at_ret_feed (v := (Value.tuple #[Value.agg #[Value.string (St []), iv 0, iv 0, iv 0, iv 0, Value.bool false], iv 47])) [(Addr.mk xb1 (0 : Nat) none), (Addr.mk xb1 (1 : Nat) none), (Addr.mk xb1 (2 : Nat) none), (Addr.mk xb1 (3 : Nat) none), (Addr.mk xb1 (4 : Nat) none), (Addr.mk xb1 (5 : Nat) none)] [Value.string (St []), iv 0, iv 0, iv 0, iv 0, Value.bool false] [2] [A] Go.Proofs.Try.func25 (by kernel_rfl) (Xg.cells_cons (b := xb1) (off := 0) 4 rfl (by kernel_rfl) (Xg.cells_cons (b := xb1) (off := 1) 4 rfl (by kernel_rfl) (Xg.cells_cons (b := xb1) (off := 2) 4 rfl (by kernel_rfl) (Xg.cells_cons (b := xb1) (off := 3) 4 rfl (by kernel_rfl) (Xg.cells_cons (b := xb1) (off := 4) 4 rfl (by kernel_rfl) (Xg.cells_cons (b := xb1) (off := 5) 4 rfl (by kernel_rfl) Xg.cells_nil)))))) (by kernel_rfl) (by kernel_rfl) ?_
          exact ⟨by kernel_rfl, by kernel_rfl⟩)
      rw [if_neg h7] at hck
      rw [decide_eq_true (Decidable.not_not.1 h7)] at hft
      subst hft
      (focus
        refine Xg.at_seq ?_
        refine Xg.at_seq ?_
        refine Xg.at_region ?_
        refine Xg.ops_op (by kernel_rfl) (Xg.opx_pure ((iv (↑k'.cl.length : Int))) rfl (fun _ => by kernel_rfl) ?_)
        refine Xg.ops_op (by kernel_rfl) (Xg.opx_pure ((pv xb3 2)) rfl (fun _ => by kernel_rfl) ?_)
        refine Xg.ops_op (by kernel_rfl) (Xg.opx_load (b := xb3) (off := ((2 : Nat))) 0 (Value.slice xx1 k'.cl.length k'.cl.length) rfl (by kernel_rfl) (by kernel_rfl) (by kernel_rfl) ?_)
        refine Xg.ops_op (by kernel_rfl) (Xg.opx_pure ((iv (↑k'.cl.length : Int))) rfl (fun _ => by kernel_rfl) ?_)
        refine Xg.ops_op (by kernel_rfl) (Xg.opx_pure (.bool (decide ((((↑k'.cl.length : Int)) : Int) < ((↑k'.cl.length : Int))))) rfl (fun _ => by kernel_rfl) ?_)
        refine Xg.ops_nil ?_
        refine Xg.at_false (t := decide (((↑k'.cl.length : Int) < (↑k'.cl.length : Int)))) (by kernel_rfl) (decide_eq_false (by omega)) ?_
        refine Xg.at_exit rfl ?_
        refine Xg.at_seq ?_
        refine Xg.at_seq ?_
        refine Xg.at_region ?_
        refine Xg.ops_op (by kernel_rfl) (Xg.opx_pure ((Value.bool true)) rfl (fun _ => by kernel_rfl) ?_)
        refine Xg.ops_op (by kernel_rfl) (Xg.opx_pure (.bool false) rfl (fun _ => by kernel_rfl) ?_)
        refine Xg.ops_nil ?_
        refine Xg.at_false (t := false) (by kernel_rfl) rfl ?_
        refine Xg.at_skip ?_
        refine Xg.at_seq ?_
        refine Xg.at_region ?_
        refine Xg.ops_op (by kernel_rfl) (Xg.opx_pure ((Value.string (ByteArray.mk #[]))) rfl (fun _ => by kernel_rfl) ?_)
        refine Xg.ops_nil ?_
        refine Xg.at_seq ?_
        refine Xg.at_seq ?_
        refine Xg.at_region ?_
        refine Xg.ops_op (by kernel_rfl) (Xg.opx_pure ((iv 308)) rfl (fun _ => by kernel_rfl) ?_)
        refine Xg.ops_nil ?_
        refine Xg.at_block ?_)
      have hg2 := mid_getD B 308 15
      have hl2 : ((B.drop 308).take 15).length = 15 := by rw [List.length_take, List.length_drop]; omega
      have hB2 : isB ((B.drop 308).take 15) := isB_take _ (isB_drop _ hB)
      have htw := tit_at ((B.drop 308).take 15)
      have hv : hdB B k' = ⟨tit ((B.drop 308).take 15), B.getD 327 0, k'.mp, bn, if k'.mp = 2 then 512 else rmC (B.getD 329 0), k'.bt⟩ := by
        unfold hdB; rw [← hbn]
      obtain ⟨C, hC⟩ : ∃ C, (B.drop 308).take 15 = C := ⟨_, rfl⟩
      rw [hC] at hg2 hl2 hv htw hB2
      have hrm := rram_d (B.getD 329 0) hb9
      (focus
        refine Xg.at_rounds_inv (α := (Nat × List Int) × (Nat → Value)) (fun x => ((fun x => 308 ≤ x.1 ∧ x.1 ≤ 323 ∧ x.2 = C.take (x.1 - 308) ∧ ∀ k, k < x.1 - 308 → C.getD k 0 ≠ 0) : (Nat × List Int) → Prop) x.1) (fun x => ((fun x => 323 - x.1) : (Nat × List Int) → Nat) x.1) (fun x => Xg.headT [Value.slice a n c, tu, pv xb1 0, J0 3, pv xb2 0, iv (↑i : Int), uv (((231 : Int) - hsum B (25 : Nat)) % (256 : Int)), iv (B.getD (327 : Nat) (0 : Int)), pv xb3 0, Value.bool true, iv bn, iv (↑j : Int), iv (B.getD (329 : Nat) (0 : Int)), Value.bool true, iv (↑k'.cl.length : Int), Value.string (ByteArray.mk #[]), iv 308, tu, Value.slice a n c, iv (↑n : Int), Value.bool (decide ((↑n : Int) < (32768 : Int))), Value.bool false, Value.slice a n c, iv (↑n : Int), Value.bool false, Value.bool false, tu, iv (↑i : Int), Value.bool (decide ((↑i : Int) < (48 : Int))), J0 29, J0 30, J0 31, J0 32, J0 33, J0 34, J0 35, J0 36, J0 37, J0 38, J0 39, Value.slice a n c, uv (((231 : Int) - hsum B (25 : Nat)) % (256 : Int)), Value.slice a n c, Value.pointer (some (Addr.mk (blk a) (offA a + (333 : Nat)) none)), uv (B.getD (333 : Nat) (0 : Int)), uv (((231 : Int) - hsum B (25 : Nat)) % (256 : Int)), Value.bool !decide (B.getD (333 : Nat) (0 : Int) = ((231 : Int) - hsum B (25 : Nat)) % (256 : Int)), tu, Value.slice a n c, Value.pointer (some (Addr.mk (blk a) (offA a + (323 : Nat)) none)), uv (B.getD (323 : Nat) (0 : Int)), Value.bool (decide (B.getD (323 : Nat) (0 : Int) = (192 : Int))), tu, Value.slice a n c, Value.pointer (some (Addr.mk (blk a) (offA a + (327 : Nat)) none)), uv (B.getD (327 : Nat) (0 : Int)), iv (B.getD (327 : Nat) (0 : Int)), Value.tuple #[Value.agg #[iv k'.mp, iv k'.bk, Value.slice xx1 k'.cl.length k'.cl.length, Value.bool k'.bt], Value.bool true], iv (B.getD (327 : Nat) (0 : Int)), Value.tuple #[Value.agg #[iv k'.mp, iv k'.bk, Value.slice xx1 k'.cl.length k'.cl.length, Value.bool k'.bt], Value.bool true], Value.agg #[iv k'.mp, iv k'.bk, Value.slice xx1 k'.cl.length k'.cl.length, Value.bool k'.bt], Value.bool true, Value.bool true, Value.bool false, tu, iv (↑j : Int), Value.slice a n c, Value.pointer (some (Addr.mk (blk a) (offA a + (328 : Nat)) none)), uv (B.getD (328 : Nat) (0 : Int)), iv (B.getD (328 : Nat) (0 : Int)), Value.bool (decide ((↑j : Int) < B.getD (328 : Nat) (0 : Int))), Value.bool false, tu, tu, Value.bool false, J1 75, J1 76, J1 77, J1 78, Value.slice a n c, Value.pointer (some (Addr.mk (blk a) (offA a + (328 : Nat)) none)), uv (B.getD (328 : Nat) (0 : Int)), Value.bool (decide (B.getD (328 : Nat) (0 : Int) > (6 : Int))), Value.bool false, iv bn, pv xb3 1, iv k'.bk, Value.bool false, Value.bool false, Value.bool false, Value.slice a n c, iv (↑n : Int), iv bn, iv ((16384 : Int) * bn), Value.bool false, Value.bool false, tu, Value.slice a n c, Value.pointer (some (Addr.mk (blk a) (offA a + (329 : Nat)) none)), uv (B.getD (329 : Nat) (0 : Int)), iv (B.getD (329 : Nat) (0 : Int)), iv (↑k'.cl.length : Int), pv xb3 2, Value.slice xx1 k'.cl.length k'.cl.length, iv (↑k'.cl.length : Int), Value.bool (decide ((↑k'.cl.length : Int) < (↑k'.cl.length : Int))), J2 106, J2 107, J2 108, J2 109, J2 110, J2 111, J2 112, J2 113, J2 114, J2 115, J2 116, J2 117, Value.bool true, Value.bool false, tu, tu, tu, tu, tu, tu, tu, tu, tu, tu, tu, tu, tu, tu, tu, tu, tu, tu, tu, tu, tu, tu, tu, tu, tu, tu, tu, tu, tu, tu, tu, tu, tu, tu] [121, 122, 123, 124, 125, 126, 127, 128, 129, 130, 131, 132, 133, 134, 135, 136, 137, 138, 139] (((fun x => [(15, .string (St x.2)), (16, .int .i64 (x.1 : Nat))]) : (Nat × List Int) → List (Nat × Go.Value)) x.1) x.2) (fun x => ((fun x => [row xb3 93 [.int .i64 k'.mp, .int .i64 k'.bk, .slice xx1 k'.cl.length k'.cl.length, .bool k'.bt], ownS 3 1 (.slice xx1 k'.cl.length k'.cl.length) k'.cl.length (k'.cl.map (Value.int .i64)), A, row xb2 34 [.string (St []), .int .i64 0, .int .i64 0, .int .i64 0, .int .i64 0, .bool false], row xb1 34 [.string (St []), .int .i64 0, .int .i64 0, .int .i64 0, .int .i64 0, .bool false]]) : (Nat × List Int) → List Go.Sl.HP) x.1) (((308, [])), fun j9 => ([Value.slice a n c, tu, pv xb1 0, J0 3, pv xb2 0, iv (↑i : Int), uv (((231 : Int) - hsum B (25 : Nat)) % (256 : Int)), iv (B.getD (327 : Nat) (0 : Int)), pv xb3 0, Value.bool true, iv bn, iv (↑j : Int), iv (B.getD (329 : Nat) (0 : Int)), Value.bool true, iv (↑k'.cl.length : Int), Value.string (ByteArray.mk #[]), iv 308, tu, Value.slice a n c, iv (↑n : Int), Value.bool (decide ((↑n : Int) < (32768 : Int))), Value.bool false, Value.slice a n c, iv (↑n : Int), Value.bool false, Value.bool false, tu, iv (↑i : Int), Value.bool (decide ((↑i : Int) < (48 : Int))), J0 29, J0 30, J0 31, J0 32, J0 33, J0 34, J0 35, J0 36, J0 37, J0 38, J0 39, Value.slice a n c, uv (((231 : Int) - hsum B (25 : Nat)) % (256 : Int)), Value.slice a n c, Value.pointer (some (Addr.mk (blk a) (offA a + (333 : Nat)) none)), uv (B.getD (333 : Nat) (0 : Int)), uv (((231 : Int) - hsum B (25 : Nat)) % (256 : Int)), Value.bool !decide (B.getD (333 : Nat) (0 : Int) = ((231 : Int) - hsum B (25 : Nat)) % (256 : Int)), tu, Value.slice a n c, Value.pointer (some (Addr.mk (blk a) (offA a + (323 : Nat)) none)), uv (B.getD (323 : Nat) (0 : Int)), Value.bool (decide (B.getD (323 : Nat) (0 : Int) = (192 : Int))), tu, Value.slice a n c, Value.pointer (some (Addr.mk (blk a) (offA a + (327 : Nat)) none)), uv (B.getD (327 : Nat) (0 : Int)), iv (B.getD (327 : Nat) (0 : Int)), Value.tuple #[Value.agg #[iv k'.mp, iv k'.bk, Value.slice xx1 k'.cl.length k'.cl.length, Value.bool k'.bt], Value.bool true], iv (B.getD (327 : Nat) (0 : Int)), Value.tuple #[Value.agg #[iv k'.mp, iv k'.bk, Value.slice xx1 k'.cl.length k'.cl.length, Value.bool k'.bt], Value.bool true], Value.agg #[iv k'.mp, iv k'.bk, Value.slice xx1 k'.cl.length k'.cl.length, Value.bool k'.bt], Value.bool true, Value.bool true, Value.bool false, tu, iv (↑j : Int), Value.slice a n c, Value.pointer (some (Addr.mk (blk a) (offA a + (328 : Nat)) none)), uv (B.getD (328 : Nat) (0 : Int)), iv (B.getD (328 : Nat) (0 : Int)), Value.bool (decide ((↑j : Int) < B.getD (328 : Nat) (0 : Int))), Value.bool false, tu, tu, Value.bool false, J1 75, J1 76, J1 77, J1 78, Value.slice a n c, Value.pointer (some (Addr.mk (blk a) (offA a + (328 : Nat)) none)), uv (B.getD (328 : Nat) (0 : Int)), Value.bool (decide (B.getD (328 : Nat) (0 : Int) > (6 : Int))), Value.bool false, iv bn, pv xb3 1, iv k'.bk, Value.bool false, Value.bool false, Value.bool false, Value.slice a n c, iv (↑n : Int), iv bn, iv ((16384 : Int) * bn), Value.bool false, Value.bool false, tu, Value.slice a n c, Value.pointer (some (Addr.mk (blk a) (offA a + (329 : Nat)) none)), uv (B.getD (329 : Nat) (0 : Int)), iv (B.getD (329 : Nat) (0 : Int)), iv (↑k'.cl.length : Int), pv xb3 2, Value.slice xx1 k'.cl.length k'.cl.length, iv (↑k'.cl.length : Int), Value.bool (decide ((↑k'.cl.length : Int) < (↑k'.cl.length : Int))), J2 106, J2 107, J2 108, J2 109, J2 110, J2 111, J2 112, J2 113, J2 114, J2 115, J2 116, J2 117, Value.bool true, Value.bool false, tu, tu, tu, tu, tu, tu, tu, tu, tu, tu, tu, tu, tu, tu, tu, tu, tu, tu, tu, tu, tu, tu, tu, tu, tu, tu, tu, tu, tu, tu, tu, tu, tu, tu] : List Value).getD j9 undef) (by kernel_rfl) (by kernel_rfl) ?_ ?_)
      · exact ⟨Nat.le_refl _, by show (308 : Nat) ≤ 323; decide, by show [] = C.take (308 - 308); simp, fun k hk => absurd (show k < 308 - 308 from hk) (by omega)⟩
      rintro ⟨⟨e, ss⟩, J3⟩ hI ih
      obtain ⟨he0, he1, hss, hnz⟩ := hI
      dsimp only at he0 he1 hss hnz
      (focus
        refine Xg.At.same (T' := [Value.slice a n c, tu, pv xb1 0, J0 3, pv xb2 0, iv (↑i : Int), uv (((231 : Int) - hsum B (25 : Nat)) % (256 : Int)), iv (B.getD (327 : Nat) (0 : Int)), pv xb3 0, Value.bool true, iv bn, iv (↑j : Int), iv (B.getD (329 : Nat) (0 : Int)), Value.bool true, iv (↑k'.cl.length : Int), Value.string (St ss), iv (↑e : Int), tu, Value.slice a n c, iv (↑n : Int), Value.bool (decide ((↑n : Int) < (32768 : Int))), Value.bool false, Value.slice a n c, iv (↑n : Int), Value.bool false, Value.bool false, tu, iv (↑i : Int), Value.bool (decide ((↑i : Int) < (48 : Int))), J0 29, J0 30, J0 31, J0 32, J0 33, J0 34, J0 35, J0 36, J0 37, J0 38, J0 39, Value.slice a n c, uv (((231 : Int) - hsum B (25 : Nat)) % (256 : Int)), Value.slice a n c, Value.pointer (some (Addr.mk (blk a) (offA a + (333 : Nat)) none)), uv (B.getD (333 : Nat) (0 : Int)), uv (((231 : Int) - hsum B (25 : Nat)) % (256 : Int)), Value.bool !decide (B.getD (333 : Nat) (0 : Int) = ((231 : Int) - hsum B (25 : Nat)) % (256 : Int)), tu, Value.slice a n c, Value.pointer (some (Addr.mk (blk a) (offA a + (323 : Nat)) none)), uv (B.getD (323 : Nat) (0 : Int)), Value.bool (decide (B.getD (323 : Nat) (0 : Int) = (192 : Int))), tu, Value.slice a n c, Value.pointer (some (Addr.mk (blk a) (offA a + (327 : Nat)) none)), uv (B.getD (327 : Nat) (0 : Int)), iv (B.getD (327 : Nat) (0 : Int)), Value.tuple #[Value.agg #[iv k'.mp, iv k'.bk, Value.slice xx1 k'.cl.length k'.cl.length, Value.bool k'.bt], Value.bool true], iv (B.getD (327 : Nat) (0 : Int)), Value.tuple #[Value.agg #[iv k'.mp, iv k'.bk, Value.slice xx1 k'.cl.length k'.cl.length, Value.bool k'.bt], Value.bool true], Value.agg #[iv k'.mp, iv k'.bk, Value.slice xx1 k'.cl.length k'.cl.length, Value.bool k'.bt], Value.bool true, Value.bool true, Value.bool false, tu, iv (↑j : Int), Value.slice a n c, Value.pointer (some (Addr.mk (blk a) (offA a + (328 : Nat)) none)), uv (B.getD (328 : Nat) (0 : Int)), iv (B.getD (328 : Nat) (0 : Int)), Value.bool (decide ((↑j : Int) < B.getD (328 : Nat) (0 : Int))), Value.bool false, tu, tu, Value.bool false, J1 75, J1 76, J1 77, J1 78, Value.slice a n c, Value.pointer (some (Addr.mk (blk a) (offA a + (328 : Nat)) none)), uv (B.getD (328 : Nat) (0 : Int)), Value.bool (decide (B.getD (328 : Nat) (0 : Int) > (6 : Int))), Value.bool false, iv bn, pv xb3 1, iv k'.bk, Value.bool false, Value.bool false, Value.bool false, Value.slice a n c, iv (↑n : Int), iv bn, iv ((16384 : Int) * bn), Value.bool false, Value.bool false, tu, Value.slice a n c, Value.pointer (some (Addr.mk (blk a) (offA a + (329 : Nat)) none)), uv (B.getD (329 : Nat) (0 : Int)), iv (B.getD (329 : Nat) (0 : Int)), iv (↑k'.cl.length : Int), pv xb3 2, Value.slice xx1 k'.cl.length k'.cl.length, iv (↑k'.cl.length : Int), Value.bool (decide ((↑k'.cl.length : Int) < (↑k'.cl.length : Int))), J2 106, J2 107, J2 108, J2 109, J2 110, J2 111, J2 112, J2 113, J2 114, J2 115, J2 116, J2 117, Value.bool true, Value.bool false, tu, J3 121, J3 122, J3 123, J3 124, J3 125, J3 126, J3 127, J3 128, J3 129, J3 130, J3 131, J3 132, J3 133, J3 134, J3 135, J3 136, J3 137, J3 138, J3 139, tu, tu, tu, tu, tu, tu, tu, tu, tu, tu, tu, tu, tu, tu]) (L' := [row xb3 (93 : TypeId) [iv k'.mp, iv k'.bk, Value.slice xx1 k'.cl.length k'.cl.length, Value.bool k'.bt], ownS (3 : TypeId) (1 : Nat) (Value.slice xx1 k'.cl.length k'.cl.length) k'.cl.length (List.map (Value.int IntKind.i64) k'.cl), A, row xb2 (34 : TypeId) [Value.string (St []), iv 0, iv 0, iv 0, iv 0, Value.bool false], row xb1 (34 : TypeId) [Value.string (St []), iv 0, iv 0, iv 0, iv 0, Value.bool false]]) (by kernel_rfl) rfl ?_)
      by_cases hlt5 : e < 323
      · have hge := hg2 (e - 308) (by omega)
        rw [show 308 + (e - 308) = e by omega] at hge
        have hbe := isB_get hB (i := e) (by omega)
        by_cases hz : B.getD e 0 = 0
        · have ht := htw (e - 308) (by omega) hnz (fun _ => by rw [hge, hz])
          rw [← hss] at ht
          rw [ht] at hv
          rw [hck, hv]
          clear ih
          by_cases hmp2 : k'.mp = 2
          · rw [if_pos hmp2]
            (focus
              refine Xg.at_seq ?_
              refine Xg.at_seq ?_
              refine Xg.at_region ?_
              refine Xg.ops_op (by kernel_rfl) (Xg.opx_pure ((iv (↑e : Int))) rfl (fun _ => by kernel_rfl) ?_)
              refine Xg.ops_op (by kernel_rfl) (Xg.opx_pure (.bool (decide ((((↑e : Int)) : Int) ≤ ((322 : Int))))) rfl (fun _ => by kernel_rfl) ?_)
              refine Xg.ops_op (by kernel_rfl) (Xg.opx_pure ((Value.bool (decide ((↑e : Int) ≤ (322 : Int))))) rfl (fun _ => by kernel_rfl) ?_)
              refine Xg.ops_flag (j := 123) (c := (decide ((↑e : Int) ≤ (322 : Int)))) (by kernel_rfl) (fun _ => ?_) (fun xh2 => absurd (of_decide_eq_false xh2) (by omega))
              refine Xg.ops_op (by kernel_rfl) (Xg.opx_pure ((Value.slice a n c)) rfl (fun _ => by kernel_rfl) ?_)
              refine Xg.ops_op (by kernel_rfl) (Xg.opx_pure ((iv (↑e : Int))) rfl (fun _ => by kernel_rfl) ?_)
              refine Xg.ops_op (by kernel_rfl) (Xg.opx_rd 2 (.pointer (some (Addr.mk (Xg.blk a) (offA a + e) none))) rfl hR (by kernel_rfl) (Xg.run_ix_rd (elem := 5) (kd := .i64) (e := ((↑e : Int))) 1 e (offA a + e) (by kernel_rfl) (by kernel_rfl) (by kernel_rfl) (by kernel_rfl) rfl (by omega) (by simp only [List.length_map]; omega) (by omega)) ?_)
              refine Xg.ops_op (by kernel_rfl) (Xg.opx_rd 2 (uv (B.getD e (0 : Int))) rfl hR (by kernel_rfl) (Xg.run_load_rd (off0 := (offA a + e)) e (by kernel_rfl) (by omega) (Xg.get_ints (by omega)) (by kernel_rfl)) ?_)
              refine Xg.ops_op (by kernel_rfl) (Xg.opx_pure (.bool (!decide (((B.getD e (0 : Int)) : Int) = ((0 : Int))))) rfl (fun _ => by kernel_rfl) ?_)
              refine Xg.ops_flag (j := 128) (c := (!decide (B.getD e (0 : Int) = (0 : Int)))) (by kernel_rfl) (fun xh2 => absurd xh2 (by rw [decide_eq_true (p := (B.getD e (0 : Int) = (0 : Int))) (by omega)]; decide)) (fun _ => ?_)
              refine Xg.ops_op (by kernel_rfl) (Xg.opx_pure ((Value.bool false)) rfl (fun _ => by kernel_rfl) ?_)
              refine Xg.ops_nil ?_
              refine Xg.at_false (t := false) (by kernel_rfl) rfl ?_
              refine Xg.at_exit rfl ?_
              refine Xg.at_seq ?_
              refine Xg.at_region ?_
              refine Xg.ops_op (by kernel_rfl) (Xg.opx_pure ((iv (B.getD (329 : Nat) (0 : Int)))) rfl (fun _ => by kernel_rfl) ?_)
              refine Xg.ops_op (by kernel_rfl) (Xg.opx_call1' [] [row xb3 (93 : TypeId) [iv k'.mp, iv k'.bk, Value.slice xx1 k'.cl.length k'.cl.length, Value.bool k'.bt], ownS (3 : TypeId) (1 : Nat) (Value.slice xx1 k'.cl.length k'.cl.length) k'.cl.length (List.map (Value.int IntKind.i64) k'.cl), A, row xb2 (34 : TypeId) [Value.string (St []), iv 0, iv 0, iv 0, iv 0, Value.bool false], row xb1 (34 : TypeId) [Value.string (St []), iv 0, iv 0, iv 0, iv 0, Value.bool false]] (fun _ => by kernel_rfl) (@hrm ) (by kernel_rfl) (by kernel_rfl) (by kernel_rfl) ?_)
              refine Xg.ops_op (by kernel_rfl) (Xg.opx_pure ((iv (rmC (B.getD (329 : Nat) (0 : Int))))) rfl (fun _ => by kernel_rfl) ?_)
              refine Xg.ops_nil ?_
              refine Xg.at_seq ?_
              refine Xg.at_seq ?_
              refine Xg.at_region ?_
              refine Xg.ops_op (by kernel_rfl) (Xg.opx_pure ((pv xb3 0)) rfl (fun _ => by kernel_rfl) ?_)
              refine Xg.ops_op (by kernel_rfl) (Xg.opx_load (b := xb3) (off := ((0 : Nat))) 0 (iv k'.mp) rfl (by kernel_rfl) (by kernel_rfl) (by kernel_rfl) ?_)
              refine Xg.ops_op (by kernel_rfl) (Xg.opx_pure (.bool (decide ((k'.mp : Int) = ((2 : Int))))) rfl (fun _ => by kernel_rfl) ?_)
              refine Xg.ops_nil ?_
              refine Xg.at_true (t := decide ((k'.mp = (2 : Int)))) (by kernel_rfl) (decide_eq_true (by omega)) ?_
              refine Xg.at_region ?_
              refine Xg.ops_op (by kernel_rfl) (Xg.opx_pure ((iv 512)) rfl (fun _ => by kernel_rfl) ?_)
              refine Xg.ops_nil ?_
              refine Xg.at_seq ?_
              refine Xg.at_region ?_
              refine Xg.ops_op (by kernel_rfl) (Xg.opx_pure ((Value.string (St ss))) rfl (fun _ => by kernel_rfl) ?_)
              refine Xg.ops_op (by kernel_rfl) (Xg.opx_pure ((iv (B.getD (327 : Nat) (0 : Int)))) rfl (fun _ => by kernel_rfl) ?_)
              refine Xg.ops_op (by kernel_rfl) (Xg.opx_pure ((pv xb3 0)) rfl (fun _ => by kernel_rfl) ?_)
              refine Xg.ops_op (by kernel_rfl) (Xg.opx_load (b := xb3) (off := ((0 : Nat))) 0 (iv k'.mp) rfl (by kernel_rfl) (by kernel_rfl) (by kernel_rfl) ?_)
              refine Xg.ops_op (by kernel_rfl) (Xg.opx_pure ((iv bn)) rfl (fun _ => by kernel_rfl) ?_)
              refine Xg.ops_op (by kernel_rfl) (Xg.opx_pure ((iv 512)) rfl (fun _ => by kernel_rfl) ?_)
              refine Xg.ops_op (by kernel_rfl) (Xg.opx_pure ((pv xb3 3)) rfl (fun _ => by kernel_rfl) ?_)
              refine Xg.ops_op (by kernel_rfl) (Xg.opx_load (b := xb3) (off := ((3 : Nat))) 0 (Value.bool k'.bt) rfl (by kernel_rfl) (by kernel_rfl) (by kernel_rfl) ?_)
              refine Xg.ops_op (by kernel_rfl) (Xg.opx_pure ((Value.agg #[Value.string (St ss), iv (B.getD (327 : Nat) (0 : Int)), iv k'.mp, iv bn, iv 512, Value.bool k'.bt])) rfl (fun _ => by kernel_rfl) ?_)
              refine Xg.ops_op (by kernel_rfl) (Xg.opx_storen 6 (off := 0) 4 [Value.string (St ss), iv (B.getD (327 : Nat) (0 : Int)), iv k'.mp, iv bn, iv 512, Value.bool k'.bt] (by kernel_rfl) rfl (by kernel_rfl) (by kernel_rfl) rfl (by kernel_rfl) (Nat.le_of_ble_eq_true (by kernel_rfl)) ?_)
              refine Xg.ops_op (by kernel_rfl) (Xg.opx_pure ((iv 0)) rfl (fun _ => by kernel_rfl) ?_)
              refine Xg.ops_nil ?_
              refine Xg.at_ret_feed (v := (Value.tuple #[Value.agg #[Value.string (St ss), iv (B.getD (327 : Nat) (0 : Int)), iv k'.mp, iv bn, iv 512, Value.bool k'.bt], iv 0])) [(Addr.mk xb1 (0 : Nat) none), (Addr.mk xb1 (1 : Nat) none), (Addr.mk xb1 (2 : Nat) none), (Addr.mk xb1 (3 : Nat) none), (Addr.mk xb1 (4 : Nat) none), (Addr.mk xb1 (5 : Nat) none)] [Value.string (St ss), iv (B.getD (327 : Nat) (0 : Int)), iv k'.mp, iv bn, iv 512, Value.bool k'.bt] [2] [A] Go.Proofs.Try.func25 (by kernel_rfl) (Xg.cells_cons (b := xb1) (off := 0) 4 rfl (by kernel_rfl) (Xg.cells_cons (b := xb1) (off := 1) 4 rfl (by kernel_rfl) (Xg.cells_cons (b := xb1) (off := 2) 4 rfl (by kernel_rfl) (Xg.cells_cons (b := xb1) (off := 3) 4 rfl (by kernel_rfl) (Xg.cells_cons (b := xb1) (off := 4) 4 rfl (by kernel_rfl) (Xg.cells_cons (b := xb1) (off := 5) 4 rfl (by kernel_rfl) Xg.cells_nil)))))) (by kernel_rfl) (by kernel_rfl) ?_)
            exact ⟨rfl, rfl⟩
          · rw [if_neg hmp2]
            (focus
              refine Xg.at_seq ?_
              refine Xg.at_seq ?_
              refine Xg.at_region ?_
              refine Xg.ops_op (by kernel_rfl) (Xg.opx_pure ((iv (↑e : Int))) rfl (fun _ => by kernel_rfl) ?_)
              refine Xg.ops_op (by kernel_rfl) (Xg.opx_pure (.bool (decide ((((↑e : Int)) : Int) ≤ ((322 : Int))))) rfl (fun _ => by kernel_rfl) ?_)
              refine Xg.ops_op (by kernel_rfl) (Xg.opx_pure ((Value.bool (decide ((↑e : Int) ≤ (322 : Int))))) rfl (fun _ => by kernel_rfl) ?_)
              refine Xg.ops_flag (j := 123) (c := (decide ((↑e : Int) ≤ (322 : Int)))) (by kernel_rfl) (fun _ => ?_) (fun xh2 => absurd (of_decide_eq_false xh2) (by omega))
              refine Xg.ops_op (by kernel_rfl) (Xg.opx_pure ((Value.slice a n c)) rfl (fun _ => by kernel_rfl) ?_)
              refine Xg.ops_op (by kernel_rfl) (Xg.opx_pure ((iv (↑e : Int))) rfl (fun _ => by kernel_rfl) ?_)
              refine Xg.ops_op (by kernel_rfl) (Xg.opx_rd 2 (.pointer (some (Addr.mk (Xg.blk a) (offA a + e) none))) rfl hR (by kernel_rfl) (Xg.run_ix_rd (elem := 5) (kd := .i64) (e := ((↑e : Int))) 1 e (offA a + e) (by kernel_rfl) (by kernel_rfl) (by kernel_rfl) (by kernel_rfl) rfl (by omega) (by simp only [List.length_map]; omega) (by omega)) ?_)
              refine Xg.ops_op (by kernel_rfl) (Xg.opx_rd 2 (uv (B.getD e (0 : Int))) rfl hR (by kernel_rfl) (Xg.run_load_rd (off0 := (offA a + e)) e (by kernel_rfl) (by omega) (Xg.get_ints (by omega)) (by kernel_rfl)) ?_)
              refine Xg.ops_op (by kernel_rfl) (Xg.opx_pure (.bool (!decide (((B.getD e (0 : Int)) : Int) = ((0 : Int))))) rfl (fun _ => by kernel_rfl) ?_)
              refine Xg.ops_flag (j := 128) (c := (!decide (B.getD e (0 : Int) = (0 : Int)))) (by kernel_rfl) (fun xh2 => absurd xh2 (by rw [decide_eq_true (p := (B.getD e (0 : Int) = (0 : Int))) (by omega)]; decide)) (fun _ => ?_)
              refine Xg.ops_op (by kernel_rfl) (Xg.opx_pure ((Value.bool false)) rfl (fun _ => by kernel_rfl) ?_)
              refine Xg.ops_nil ?_
              refine Xg.at_false (t := false) (by kernel_rfl) rfl ?_
              refine Xg.at_exit rfl ?_
              refine Xg.at_seq ?_
              refine Xg.at_region ?_
              refine Xg.ops_op (by kernel_rfl) (Xg.opx_pure ((iv (B.getD (329 : Nat) (0 : Int)))) rfl (fun _ => by kernel_rfl) ?_)
              refine Xg.ops_op (by kernel_rfl) (Xg.opx_call1' [] [row xb3 (93 : TypeId) [iv k'.mp, iv k'.bk, Value.slice xx1 k'.cl.length k'.cl.length, Value.bool k'.bt], ownS (3 : TypeId) (1 : Nat) (Value.slice xx1 k'.cl.length k'.cl.length) k'.cl.length (List.map (Value.int IntKind.i64) k'.cl), A, row xb2 (34 : TypeId) [Value.string (St []), iv 0, iv 0, iv 0, iv 0, Value.bool false], row xb1 (34 : TypeId) [Value.string (St []), iv 0, iv 0, iv 0, iv 0, Value.bool false]] (fun _ => by kernel_rfl) (@hrm ) (by kernel_rfl) (by kernel_rfl) (by kernel_rfl) ?_)
              refine Xg.ops_op (by kernel_rfl) (Xg.opx_pure ((iv (rmC (B.getD (329 : Nat) (0 : Int))))) rfl (fun _ => by kernel_rfl) ?_)
              refine Xg.ops_nil ?_
              refine Xg.at_seq ?_
              refine Xg.at_seq ?_
              refine Xg.at_region ?_
              refine Xg.ops_op (by kernel_rfl) (Xg.opx_pure ((pv xb3 0)) rfl (fun _ => by kernel_rfl) ?_)
              refine Xg.ops_op (by kernel_rfl) (Xg.opx_load (b := xb3) (off := ((0 : Nat))) 0 (iv k'.mp) rfl (by kernel_rfl) (by kernel_rfl) (by kernel_rfl) ?_)
              refine Xg.ops_op (by kernel_rfl) (Xg.opx_pure (.bool (decide ((k'.mp : Int) = ((2 : Int))))) rfl (fun _ => by kernel_rfl) ?_)
              refine Xg.ops_nil ?_
              refine Xg.at_false (t := decide ((k'.mp = (2 : Int)))) (by kernel_rfl) (decide_eq_false (by omega)) ?_
              refine Xg.at_skip ?_
              refine Xg.at_seq ?_
              refine Xg.at_region ?_
              refine Xg.ops_op (by kernel_rfl) (Xg.opx_pure ((Value.string (St ss))) rfl (fun _ => by kernel_rfl) ?_)
              refine Xg.ops_op (by kernel_rfl) (Xg.opx_pure ((iv (B.getD (327 : Nat) (0 : Int)))) rfl (fun _ => by kernel_rfl) ?_)
              refine Xg.ops_op (by kernel_rfl) (Xg.opx_pure ((pv xb3 0)) rfl (fun _ => by kernel_rfl) ?_)
              refine Xg.ops_op (by kernel_rfl) (Xg.opx_load (b := xb3) (off := ((0 : Nat))) 0 (iv k'.mp) rfl (by kernel_rfl) (by kernel_rfl) (by kernel_rfl) ?_)
              refine Xg.ops_op (by kernel_rfl) (Xg.opx_pure ((iv bn)) rfl (fun _ => by kernel_rfl) ?_)
              refine Xg.ops_op (by kernel_rfl) (Xg.opx_pure ((iv (rmC (B.getD (329 : Nat) (0 : Int))))) rfl (fun _ => by kernel_rfl) ?_)
              refine Xg.ops_op (by kernel_rfl) (Xg.opx_pure ((pv xb3 3)) rfl (fun _ => by kernel_rfl) ?_)
              refine Xg.ops_op (by kernel_rfl) (Xg.opx_load (b := xb3) (off := ((3 : Nat))) 0 (Value.bool k'.bt) rfl (by kernel_rfl) (by kernel_rfl) (by kernel_rfl) ?_)
              refine Xg.ops_op (by kernel_rfl) (Xg.opx_pure ((Value.agg #[Value.string (St ss), iv (B.getD (327 : Nat) (0 : Int)), iv k'.mp, iv bn, iv (rmC (B.getD (329 : Nat) (0 : Int))), Value.bool k'.bt])) rfl (fun _ => by kernel_rfl) ?_)
              refine Xg.ops_op (by kernel_rfl) (Xg.opx_storen 6 (off := 0) 4 [Value.string (St ss), iv (B.getD (327 : Nat) (0 : Int)), iv k'.mp, iv bn, iv (rmC (B.getD (329 : Nat) (0 : Int))), Value.bool k'.bt] (by kernel_rfl) rfl (by kernel_rfl) (by kernel_rfl) rfl (by kernel_rfl) (Nat.le_of_ble_eq_true (by kernel_rfl)) ?_)
              refine Xg.ops_op (by kernel_rfl) (Xg.opx_pure ((iv 0)) rfl (fun _ => by kernel_rfl) ?_)
              refine Xg.ops_nil ?_
              refine Xg.at_ret_feed (v := (Value.tuple #[Value.agg #[Value.string (St ss), iv (B.getD (327 : Nat) (0 : Int)), iv k'.mp, iv bn, iv (rmC (B.getD (329 : Nat) (0 : Int))), Value.bool k'.bt], iv 0])) [(Addr.mk xb1 (0 : Nat) none), (Addr.mk xb1 (1 : Nat) none), (Addr.mk xb1 (2 : Nat) none), (Addr.mk xb1 (3 : Nat) none), (Addr.mk xb1 (4 : Nat) none), (Addr.mk xb1 (5 : Nat) none)] [Value.string (St ss), iv (B.getD (327 : Nat) (0 : Int)), iv k'.mp, iv bn, iv (rmC (B.getD (329 : Nat) (0 : Int))), Value.bool k'.bt] [2] [A] Go.Proofs.Try.func25 (by kernel_rfl) (Xg.cells_cons (b := xb1) (off := 0) 4 rfl (by kernel_rfl) (Xg.cells_cons (b := xb1) (off := 1) 4 rfl (by kernel_rfl) (Xg.cells_cons (b := xb1) (off := 2) 4 rfl (by kernel_rfl) (Xg.cells_cons (b := xb1) (off := 3) 4 rfl (by kernel_rfl) (Xg.cells_cons (b := xb1) (off := 4) 4 rfl (by kernel_rfl) (Xg.cells_cons (b := xb1) (off := 5) 4 rfl (by kernel_rfl) Xg.cells_nil)))))) (by kernel_rfl) (by kernel_rfl) ?_)
            exact ⟨rfl, rfl⟩
        · have hsl : ss.length ≤ 15 := by rw [hss, List.length_take]; omega
          have hto := take_one C (e - 308) (by omega)
          rw [← hss, hge, show e - 308 + 1 = e + 1 - 308 by omega] at hto
          (focus
            refine Xg.at_seq ?_
            refine Xg.at_seq ?_
            refine Xg.at_region ?_
            refine Xg.ops_op (by kernel_rfl) (Xg.opx_pure ((iv (↑e : Int))) rfl (fun _ => by kernel_rfl) ?_)
            refine Xg.ops_op (by kernel_rfl) (Xg.opx_pure (.bool (decide ((((↑e : Int)) : Int) ≤ ((322 : Int))))) rfl (fun _ => by kernel_rfl) ?_)
            refine Xg.ops_op (by kernel_rfl) (Xg.opx_pure ((Value.bool (decide ((↑e : Int) ≤ (322 : Int))))) rfl (fun _ => by kernel_rfl) ?_)
            refine Xg.ops_flag (j := 123) (c := (decide ((↑e : Int) ≤ (322 : Int)))) (by kernel_rfl) (fun _ => ?_) (fun xh2 => absurd (of_decide_eq_false xh2) (by omega))
            refine Xg.ops_op (by kernel_rfl) (Xg.opx_pure ((Value.slice a n c)) rfl (fun _ => by kernel_rfl) ?_)
            refine Xg.ops_op (by kernel_rfl) (Xg.opx_pure ((iv (↑e : Int))) rfl (fun _ => by kernel_rfl) ?_)
            refine Xg.ops_op (by kernel_rfl) (Xg.opx_rd 2 (.pointer (some (Addr.mk (Xg.blk a) (offA a + e) none))) rfl hR (by kernel_rfl) (Xg.run_ix_rd (elem := 5) (kd := .i64) (e := ((↑e : Int))) 1 e (offA a + e) (by kernel_rfl) (by kernel_rfl) (by kernel_rfl) (by kernel_rfl) rfl (by omega) (by simp only [List.length_map]; omega) (by omega)) ?_)
            refine Xg.ops_op (by kernel_rfl) (Xg.opx_rd 2 (uv (B.getD e (0 : Int))) rfl hR (by kernel_rfl) (Xg.run_load_rd (off0 := (offA a + e)) e (by kernel_rfl) (by omega) (Xg.get_ints (by omega)) (by kernel_rfl)) ?_)
            refine Xg.ops_op (by kernel_rfl) (Xg.opx_pure (.bool (!decide (((B.getD e (0 : Int)) : Int) = ((0 : Int))))) rfl (fun _ => by kernel_rfl) ?_)
            refine Xg.ops_flag (j := 128) (c := (!decide (B.getD e (0 : Int) = (0 : Int)))) (by kernel_rfl) (fun _ => ?_) (fun xh2 => absurd xh2 (by rw [decide_eq_false (p := (B.getD e (0 : Int) = (0 : Int))) (by omega)]; decide))
            refine Xg.ops_op (by kernel_rfl) (Xg.opx_pure ((Value.bool true)) rfl (fun _ => by kernel_rfl) ?_)
            refine Xg.ops_nil ?_
            refine Xg.at_true (t := true) (by kernel_rfl) rfl ?_
            refine Xg.at_skip ?_
            refine Xg.at_seq ?_
            refine Xg.at_block ?_
            refine Xg.at_region ?_
            refine Xg.ops_op (by kernel_rfl) (Xg.opx_pure ((Value.string (St ss))) rfl (fun _ => by kernel_rfl) ?_)
            refine Xg.ops_op (by kernel_rfl) (Xg.opx_pure ((Value.slice a n c)) rfl (fun _ => by kernel_rfl) ?_)
            refine Xg.ops_op (by kernel_rfl) (Xg.opx_pure ((iv (↑e : Int))) rfl (fun _ => by kernel_rfl) ?_)
            refine Xg.ops_op (by kernel_rfl) (Xg.opx_rd 2 (.pointer (some (Addr.mk (Xg.blk a) (offA a + e) none))) rfl hR (by kernel_rfl) (Xg.run_ix_rd (elem := 5) (kd := .i64) (e := ((↑e : Int))) 1 e (offA a + e) (by kernel_rfl) (by kernel_rfl) (by kernel_rfl) (by kernel_rfl) rfl (by omega) (by simp only [List.length_map]; omega) (by omega)) ?_)
            refine Xg.ops_op (by kernel_rfl) (Xg.opx_rd 2 (uv (B.getD e (0 : Int))) rfl hR (by kernel_rfl) (Xg.run_load_rd (off0 := (offA a + e)) e (by kernel_rfl) (by omega) (Xg.get_ints (by omega)) (by kernel_rfl)) ?_)
            refine Xg.ops_op (by kernel_rfl) (Xg.opx_bs (elem := 5) 1 [uv (B.getD e (0 : Int))] [uv (B.getD e (0 : Int))] (by kernel_rfl) (by kernel_rfl) (by decide) rfl (by kernel_rfl) (by kernel_rfl) (by kernel_rfl) (by kernel_rfl) fun xb4 => ?_)
            refine Xg.ops_op (by kernel_rfl) (Xg.opx_rd 0 (.string (Xg.St [B.getD e (0 : Int)])) rfl (Xg.reads_rowN (b := xb4) (E := ((5 : TypeId))) (n := ((1 : Nat))) (c := ((1 : Nat))) (cs := [uv (B.getD e (0 : Int))]) (by kernel_rfl)) (by kernel_rfl) (Xg.run_str_rd (e := 5) (a := (some (Addr.mk xb4 (0 : Nat) none))) (n := ((1 : Nat))) (c := ((1 : Nat))) (xs := [B.getD e (0 : Int)]) (by kernel_rfl) (by kernel_rfl) (by kernel_rfl) (by kernel_rfl)) ?_)
            refine Xg.ops_op (by kernel_rfl) (Xg.opx_run (.string (Xg.St (ss ++ [B.getD e (0 : Int)]))) rfl (Xg.run_str_add (xs := ss) (ys := [B.getD e (0 : Int)]) (by kernel_rfl) (by kernel_rfl) (by first | omega | (simp; done) | (simp; omega))) ?_)
            refine Xg.ops_op (by kernel_rfl) (Xg.opx_pure ((Value.string (St (ss ++ [B.getD e (0 : Int)])))) rfl (fun _ => by kernel_rfl) ?_)
            refine Xg.ops_nil ?_
            refine Xg.at_inBlock ?_
            refine Xg.at_region ?_
            refine Xg.ops_op (by kernel_rfl) (Xg.opx_pure ((iv (↑e : Int))) rfl (fun _ => by kernel_rfl) ?_)
            refine Xg.ops_op (by kernel_rfl) (Xg.opx_int .i64 (IntKind.wrap .i64 (((↑e : Int) + (1 : Int)))) rfl (fun _ => by kernel_rfl) (Xg.wrap_i64_in (by omega)) ?_)
            refine Xg.ops_op (by kernel_rfl) (Xg.opx_pure ((iv ((↑e : Int) + (1 : Int)))) rfl (fun _ => by kernel_rfl) ?_)
            refine Xg.ops_nil ?_
            refine Xg.at_inLoop ?_)
          (focus
            refine Xg.at_keep [1, 2, 3, 4, 5] (by kernel_rfl) ?_
            refine Xs.same ?_ (fun J9 => ih (((e + 1, ss ++ [B.getD e 0])), J9) ?_ ?_) (by kernel_rfl))
          · rfl
          · refine ⟨by show 308 ≤ e + 1; omega, hlt5, hto, fun k hk => ?_⟩
            have hk : k < e + 1 - 308 := hk
            by_cases h : k = e - 308
            · subst h; rw [hge]; exact hz
            · exact hnz k (by omega)
          · show 323 - (e + 1) < 323 - e; omega
      · obtain rfl : e = 323 := by omega
        have ht := htw 15 (by omega) hnz (fun h => by omega)
        rw [show (323 : Nat) - 308 = 15 from rfl] at hss
        rw [← hss] at ht
        rw [ht] at hv
        rw [hck, hv]
        clear ih
        by_cases hmp2 : k'.mp = 2
        · rw [if_pos hmp2]
          (focus
            refine Xg.at_seq ?_
            refine Xg.at_seq ?_
            refine Xg.at_region ?_
            refine Xg.ops_op (by kernel_rfl) (Xg.opx_pure ((iv 323)) rfl (fun _ => by kernel_rfl) ?_)
            refine Xg.ops_op (by kernel_rfl) (Xg.opx_pure ((Value.bool false)) rfl (fun _ => by kernel_rfl) ?_)
            refine Xg.ops_op (by kernel_rfl) (Xg.opx_pure ((Value.bool false)) rfl (fun _ => by kernel_rfl) ?_)
            refine Xg.ops_skip (by kernel_rfl) ?_
            refine Xg.ops_skip (by kernel_rfl) ?_
            refine Xg.ops_skip (by kernel_rfl) ?_
            refine Xg.ops_skip (by kernel_rfl) ?_
            refine Xg.ops_skip (by kernel_rfl) ?_
            refine Xg.ops_op (by kernel_rfl) (Xg.opx_pure ((Value.bool false)) rfl (fun _ => by kernel_rfl) ?_)
            refine Xg.ops_nil ?_
            refine Xg.at_false (t := false) (by kernel_rfl) rfl ?_
            refine Xg.at_exit rfl ?_
            refine Xg.at_seq ?_
            refine Xg.at_region ?_
            refine Xg.ops_op (by kernel_rfl) (Xg.opx_pure ((iv (B.getD (329 : Nat) (0 : Int)))) rfl (fun _ => by kernel_rfl) ?_)
            refine Xg.ops_op (by kernel_rfl) (Xg.opx_call1' [] [row xb3 (93 : TypeId) [iv k'.mp, iv k'.bk, Value.slice xx1 k'.cl.length k'.cl.length, Value.bool k'.bt], ownS (3 : TypeId) (1 : Nat) (Value.slice xx1 k'.cl.length k'.cl.length) k'.cl.length (List.map (Value.int IntKind.i64) k'.cl), A, row xb2 (34 : TypeId) [Value.string (St []), iv 0, iv 0, iv 0, iv 0, Value.bool false], row xb1 (34 : TypeId) [Value.string (St []), iv 0, iv 0, iv 0, iv 0, Value.bool false]] (fun _ => by kernel_rfl) (@hrm ) (by kernel_rfl) (by kernel_rfl) (by kernel_rfl) ?_)
            refine Xg.ops_op (by kernel_rfl) (Xg.opx_pure ((iv (rmC (B.getD (329 : Nat) (0 : Int))))) rfl (fun _ => by kernel_rfl) ?_)
            refine Xg.ops_nil ?_
            refine Xg.at_seq ?_
            refine Xg.at_seq ?_
            refine Xg.at_region ?_
            refine Xg.ops_op (by kernel_rfl) (Xg.opx_pure ((pv xb3 0)) rfl (fun _ => by kernel_rfl) ?_)
            refine Xg.ops_op (by kernel_rfl) (Xg.opx_load (b := xb3) (off := ((0 : Nat))) 0 (iv k'.mp) rfl (by kernel_rfl) (by kernel_rfl) (by kernel_rfl) ?_)
            refine Xg.ops_op (by kernel_rfl) (Xg.opx_pure (.bool (decide ((k'.mp : Int) = ((2 : Int))))) rfl (fun _ => by kernel_rfl) ?_)
            refine Xg.ops_nil ?_
            refine Xg.at_true (t := decide ((k'.mp = (2 : Int)))) (by kernel_rfl) (decide_eq_true (by omega)) ?_
            refine Xg.at_region ?_
            refine Xg.ops_op (by kernel_rfl) (Xg.opx_pure ((iv 512)) rfl (fun _ => by kernel_rfl) ?_)
            refine Xg.ops_nil ?_
            refine Xg.at_seq ?_
            refine Xg.at_region ?_
            refine Xg.ops_op (by kernel_rfl) (Xg.opx_pure ((Value.string (St ss))) rfl (fun _ => by kernel_rfl) ?_)
            refine Xg.ops_op (by kernel_rfl) (Xg.opx_pure ((iv (B.getD (327 : Nat) (0 : Int)))) rfl (fun _ => by kernel_rfl) ?_)
            refine Xg.ops_op (by kernel_rfl) (Xg.opx_pure ((pv xb3 0)) rfl (fun _ => by kernel_rfl) ?_)
            refine Xg.ops_op (by kernel_rfl) (Xg.opx_load (b := xb3) (off := ((0 : Nat))) 0 (iv k'.mp) rfl (by kernel_rfl) (by kernel_rfl) (by kernel_rfl) ?_)
            refine Xg.ops_op (by kernel_rfl) (Xg.opx_pure ((iv bn)) rfl (fun _ => by kernel_rfl) ?_)
            refine Xg.ops_op (by kernel_rfl) (Xg.opx_pure ((iv 512)) rfl (fun _ => by kernel_rfl) ?_)
            refine Xg.ops_op (by kernel_rfl) (Xg.opx_pure ((pv xb3 3)) rfl (fun _ => by kernel_rfl) ?_)
            refine Xg.ops_op (by kernel_rfl) (Xg.opx_load (b := xb3) (off := ((3 : Nat))) 0 (Value.bool k'.bt) rfl (by kernel_rfl) (by kernel_rfl) (by kernel_rfl) ?_)
            refine Xg.ops_op (by kernel_rfl) (Xg.opx_pure ((Value.agg #[Value.string (St ss), iv (B.getD (327 : Nat) (0 : Int)), iv k'.mp, iv bn, iv 512, Value.bool k'.bt])) rfl (fun _ => by kernel_rfl) ?_)
            refine Xg.ops_op (by kernel_rfl) (Xg.opx_storen 6 (off := 0) 4 [Value.string (St ss), iv (B.getD (327 : Nat) (0 : Int)), iv k'.mp, iv bn, iv 512, Value.bool k'.bt] (by kernel_rfl) rfl (by kernel_rfl) (by kernel_rfl) rfl (by kernel_rfl) (Nat.le_of_ble_eq_true (by kernel_rfl)) ?_)
            refine Xg.ops_op (by kernel_rfl) (Xg.opx_pure ((iv 0)) rfl (fun _ => by kernel_rfl) ?_)
            refine Xg.ops_nil ?_
            refine Xg.at_ret_feed (v := (Value.tuple #[Value.agg #[Value.string (St ss), iv (B.getD (327 : Nat) (0 : Int)), iv k'.mp, iv bn, iv 512, Value.bool k'.bt], iv 0])) [(Addr.mk xb1 (0 : Nat) none), (Addr.mk xb1 (1 : Nat) none), (Addr.mk xb1 (2 : Nat) none), (Addr.mk xb1 (3 : Nat) none), (Addr.mk xb1 (4 : Nat) none), (Addr.mk xb1 (5 : Nat) none)] [Value.string (St ss), iv (B.getD (327 : Nat) (0 : Int)), iv k'.mp, iv bn, iv 512, Value.bool k'.bt] [2] [A] Go.Proofs.Try.func25 (by kernel_rfl) (Xg.cells_cons (b := xb1) (off := 0) 4 rfl (by kernel_rfl) (Xg.cells_cons (b := xb1) (off := 1) 4 rfl (by kernel_rfl) (Xg.cells_cons (b := xb1) (off := 2) 4 rfl (by kernel_rfl) (Xg.cells_cons (b := xb1) (off := 3) 4 rfl (by kernel_rfl) (Xg.cells_cons (b := xb1) (off := 4) 4 rfl (by kernel_rfl) (Xg.cells_cons (b := xb1) (off := 5) 4 rfl (by kernel_rfl) Xg.cells_nil)))))) (by kernel_rfl) (by kernel_rfl) ?_)
          exact ⟨rfl, rfl⟩
        · rw [if_neg hmp2]
          (focus
            refine Xg.at_seq ?_
            refine Xg.at_seq ?_
            refine Xg.at_region ?_
            refine Xg.ops_op (by kernel_rfl) (Xg.opx_pure ((iv 323)) rfl (fun _ => by kernel_rfl) ?_)
            refine Xg.ops_op (by kernel_rfl) (Xg.opx_pure ((Value.bool false)) rfl (fun _ => by kernel_rfl) ?_)
            refine Xg.ops_op (by kernel_rfl) (Xg.opx_pure ((Value.bool false)) rfl (fun _ => by kernel_rfl) ?_)
            refine Xg.ops_skip (by kernel_rfl) ?_
            refine Xg.ops_skip (by kernel_rfl) ?_
            refine Xg.ops_skip (by kernel_rfl) ?_
            refine Xg.ops_skip (by kernel_rfl) ?_
            refine Xg.ops_skip (by kernel_rfl) ?_
            refine Xg.ops_op (by kernel_rfl) (Xg.opx_pure ((Value.bool false)) rfl (fun _ => by kernel_rfl) ?_)
            refine Xg.ops_nil ?_
            refine Xg.at_false (t := false) (by kernel_rfl) rfl ?_
            refine Xg.at_exit rfl ?_
            refine Xg.at_seq ?_
            refine Xg.at_region ?_
            refine Xg.ops_op (by kernel_rfl) (Xg.opx_pure ((iv (B.getD (329 : Nat) (0 : Int)))) rfl (fun _ => by kernel_rfl) ?_)
            refine Xg.ops_op (by kernel_rfl) (Xg.opx_call1' [] [row xb3 (93 : TypeId) [iv k'.mp, iv k'.bk, Value.slice xx1 k'.cl.length k'.cl.length, Value.bool k'.bt], ownS (3 : TypeId) (1 : Nat) (Value.slice xx1 k'.cl.length k'.cl.length) k'.cl.length (List.map (Value.int IntKind.i64) k'.cl), A, row xb2 (34 : TypeId) [Value.string (St []), iv 0, iv 0, iv 0, iv 0, Value.bool false], row xb1 (34 : TypeId) [Value.string (St []), iv 0, iv 0, iv 0, iv 0, Value.bool false]] (fun _ => by kernel_rfl) (@hrm ) (by kernel_rfl) (by kernel_rfl) (by kernel_rfl) ?_)
            refine Xg.ops_op (by kernel_rfl) (Xg.opx_pure ((iv (rmC (B.getD (329 : Nat) (0 : Int))))) rfl (fun _ => by kernel_rfl) ?_)
            refine Xg.ops_nil ?_
            refine Xg.at_seq ?_
            refine Xg.at_seq ?_
            refine Xg.at_region ?_
            refine Xg.ops_op (by kernel_rfl) (Xg.opx_pure ((pv xb3 0)) rfl (fun _ => by kernel_rfl) ?_)
            refine Xg.ops_op (by kernel_rfl) (Xg.opx_load (b := xb3) (off := ((0 : Nat))) 0 (iv k'.mp) rfl (by kernel_rfl) (by kernel_rfl) (by kernel_rfl) ?_)
            refine Xg.ops_op (by kernel_rfl) (Xg.opx_pure (.bool (decide ((k'.mp : Int) = ((2 : Int))))) rfl (fun _ => by kernel_rfl) ?_)
            refine Xg.ops_nil ?_
            refine Xg.at_false (t := decide ((k'.mp = (2 : Int)))) (by kernel_rfl) (decide_eq_false (by omega)) ?_
            refine Xg.at_skip ?_
            refine Xg.at_seq ?_
            refine Xg.at_region ?_
            refine Xg.ops_op (by kernel_rfl) (Xg.opx_pure ((Value.string (St ss))) rfl (fun _ => by kernel_rfl) ?_)
            refine Xg.ops_op (by kernel_rfl) (Xg.opx_pure ((iv (B.getD (327 : Nat) (0 : Int)))) rfl (fun _ => by kernel_rfl) ?_)
            refine Xg.ops_op (by kernel_rfl) (Xg.opx_pure ((pv xb3 0)) rfl (fun _ => by kernel_rfl) ?_)
            refine Xg.ops_op (by kernel_rfl) (Xg.opx_load (b := xb3) (off := ((0 : Nat))) 0 (iv k'.mp) rfl (by kernel_rfl) (by kernel_rfl) (by kernel_rfl) ?_)
            refine Xg.ops_op (by kernel_rfl) (Xg.opx_pure ((iv bn)) rfl (fun _ => by kernel_rfl) ?_)
            refine Xg.ops_op (by kernel_rfl) (Xg.opx_pure ((iv (rmC (B.getD (329 : Nat) (0 : Int))))) rfl (fun _ => by kernel_rfl) ?_)
            refine Xg.ops_op (by kernel_rfl) (Xg.opx_pure ((pv xb3 3)) rfl (fun _ => by kernel_rfl) ?_)
            refine Xg.ops_op (by kernel_rfl) (Xg.opx_load (b := xb3) (off := ((3 : Nat))) 0 (Value.bool k'.bt) rfl (by kernel_rfl) (by kernel_rfl) (by kernel_rfl) ?_)
            refine Xg.ops_op (by kernel_rfl) (Xg.opx_pure ((Value.agg #[Value.string (St ss), iv (B.getD (327 : Nat) (0 : Int)), iv k'.mp, iv bn, iv (rmC (B.getD (329 : Nat) (0 : Int))), Value.bool k'.bt])) rfl (fun _ => by kernel_rfl) ?_)
            refine Xg.ops_op (by kernel_rfl) (Xg.opx_storen 6 (off := 0) 4 [Value.string (St ss), iv (B.getD (327 : Nat) (0 : Int)), iv k'.mp, iv bn, iv (rmC (B.getD (329 : Nat) (0 : Int))), Value.bool k'.bt] (by kernel_rfl) rfl (by kernel_rfl) (by kernel_rfl) rfl (by kernel_rfl) (Nat.le_of_ble_eq_true (by kernel_rfl)) ?_)
            refine Xg.ops_op (by kernel_rfl) (Xg.opx_pure ((iv 0)) rfl (fun _ => by kernel_rfl) ?_)
            refine Xg.ops_nil ?_
            refine Xg.at_ret_feed (v := (Value.tuple #[Value.agg #[Value.string (St ss), iv (B.getD (327 : Nat) (0 : Int)), iv k'.mp, iv bn, iv (rmC (B.getD (329 : Nat) (0 : Int))), Value.bool k'.bt], iv 0])) [(Addr.mk xb1 (0 : Nat) none), (Addr.mk xb1 (1 : Nat) none), (Addr.mk xb1 (2 : Nat) none), (Addr.mk xb1 (3 : Nat) none), (Addr.mk xb1 (4 : Nat) none), (Addr.mk xb1 (5 : Nat) none)] [Value.string (St ss), iv (B.getD (327 : Nat) (0 : Int)), iv k'.mp, iv bn, iv (rmC (B.getD (329 : Nat) (0 : Int))), Value.bool k'.bt] [2] [A] Go.Proofs.Try.func25 (by kernel_rfl) (Xg.cells_cons (b := xb1) (off := 0) 4 rfl (by kernel_rfl) (Xg.cells_cons (b := xb1) (off := 1) 4 rfl (by kernel_rfl) (Xg.cells_cons (b := xb1) (off := 2) 4 rfl (by kernel_rfl) (Xg.cells_cons (b := xb1) (off := 3) 4 rfl (by kernel_rfl) (Xg.cells_cons (b := xb1) (off := 4) 4 rfl (by kernel_rfl) (Xg.cells_cons (b := xb1) (off := 5) 4 rfl (by kernel_rfl) Xg.cells_nil)))))) (by kernel_rfl) (by kernel_rfl) ?_)
          exact ⟨rfl, rfl⟩
    clear ih
    have h4 : 6 < B.getD 328 0 := by omega
    rw [if_pos (Or.inl h4)] at hck
    rw [hck]
    (focus
      refine Xg.at_seq ?_
      refine Xg.at_seq ?_
      refine Xg.at_region ?_
      refine Xg.ops_op (by kernel_rfl) (Xg.opx_pure ((iv (↑j : Int))) rfl (fun _ => by kernel_rfl) ?_)
      refine Xg.ops_op (by kernel_rfl) (Xg.opx_pure ((Value.slice a n c)) rfl (fun _ => by kernel_rfl) ?_)
      refine Xg.ops_op (by kernel_rfl) (Xg.opx_rd 2 (.pointer (some (Addr.mk (Xg.blk a) (offA a + (328 : Nat)) none))) rfl hR (by kernel_rfl) (Xg.run_ix_rd (elem := 5) (kd := .i64) (e := ((328 : Int))) 1 ((328 : Nat)) (offA a + (328 : Nat)) (by kernel_rfl) (by kernel_rfl) (by kernel_rfl) (by kernel_rfl) rfl (by omega) (by simp only [List.length_map]; omega) (by omega)) ?_)
      refine Xg.ops_op (by kernel_rfl) (Xg.opx_rd 2 (uv (B.getD (328 : Nat) (0 : Int))) rfl hR (by kernel_rfl) (Xg.run_load_rd (off0 := (offA a + (328 : Nat))) ((328 : Nat)) (by kernel_rfl) (by omega) (Xg.get_ints (by omega)) (by kernel_rfl)) ?_)
      refine Xg.ops_op (by kernel_rfl) (Xg.opx_int .i64 (IntKind.wrap .i64 ((B.getD (328 : Nat) (0 : Int)))) rfl (fun _ => by kernel_rfl) (Xg.wrap_i64_in (by omega)) ?_)
      refine Xg.ops_op (by kernel_rfl) (Xg.opx_pure (.bool (decide ((((↑j : Int)) : Int) < (B.getD (328 : Nat) (0 : Int))))) rfl (fun _ => by kernel_rfl) ?_)
      refine Xg.ops_op (by kernel_rfl) (Xg.opx_pure ((Value.bool (decide ((↑j : Int) < B.getD (328 : Nat) (0 : Int))))) rfl (fun _ => by kernel_rfl) ?_)
      refine Xg.ops_flag (j := 71) (c := (decide ((↑j : Int) < B.getD (328 : Nat) (0 : Int)))) (by kernel_rfl) (fun xh2 => ?_) (fun xh2 => ?_)
      replace xh2 : ((↑j : Int) < B.getD (328 : Nat) (0 : Int)) := of_decide_eq_true xh2
      rotate_left
      replace xh2 : ¬ (((↑j : Int) < B.getD (328 : Nat) (0 : Int))) := of_decide_eq_false xh2
      rotate_right
      refine Xg.ops_op (by kernel_rfl) (Xg.opx_pure ((iv (↑j : Int))) rfl (fun _ => by kernel_rfl) ?_)
      refine Xg.ops_op (by kernel_rfl) (Xg.opx_pure (.bool (decide ((((↑j : Int)) : Int) < ((7 : Int))))) rfl (fun _ => by kernel_rfl) ?_)
      refine Xg.ops_flag (j := 73) (c := (decide ((↑j : Int) < (7 : Int)))) (by kernel_rfl) (fun xh3 => absurd (of_decide_eq_true xh3) (by omega)) (fun _ => ?_)
      refine Xg.ops_op (by kernel_rfl) (Xg.opx_pure ((Value.bool false)) rfl (fun _ => by kernel_rfl) ?_)
      refine Xg.ops_nil ?_
      refine Xg.at_false (t := false) (by kernel_rfl) rfl ?_
      refine Xg.at_exit rfl ?_
      refine Xg.at_seq ?_
      refine Xg.at_seq ?_
      refine Xg.at_region ?_
      refine Xg.ops_op (by kernel_rfl) (Xg.opx_pure ((Value.slice a n c)) rfl (fun _ => by kernel_rfl) ?_)
      refine Xg.ops_op (by kernel_rfl) (Xg.opx_rd 2 (.pointer (some (Addr.mk (Xg.blk a) (offA a + (328 : Nat)) none))) rfl hR (by kernel_rfl) (Xg.run_ix_rd (elem := 5) (kd := .i64) (e := ((328 : Int))) 1 ((328 : Nat)) (offA a + (328 : Nat)) (by kernel_rfl) (by kernel_rfl) (by kernel_rfl) (by kernel_rfl) rfl (by omega) (by simp only [List.length_map]; omega) (by omega)) ?_)
      refine Xg.ops_op (by kernel_rfl) (Xg.opx_rd 2 (uv (B.getD (328 : Nat) (0 : Int))) rfl hR (by kernel_rfl) (Xg.run_load_rd (off0 := (offA a + (328 : Nat))) ((328 : Nat)) (by kernel_rfl) (by omega) (Xg.get_ints (by omega)) (by kernel_rfl)) ?_)
      refine Xg.ops_op (by kernel_rfl) (Xg.opx_pure (.bool (decide (((B.getD (328 : Nat) (0 : Int)) : Int) > ((6 : Int))))) rfl (fun _ => by kernel_rfl) ?_)
      refine Xg.ops_op (by kernel_rfl) (Xg.opx_pure ((Value.bool (decide (B.getD (328 : Nat) (0 : Int) > (6 : Int))))) rfl (fun _ => by kernel_rfl) ?_)
      refine Xg.ops_flag (j := 83) (c := (decide (B.getD (328 : Nat) (0 : Int) > (6 : Int)))) (by kernel_rfl) (fun _ => ?_) (fun xh3 => absurd (of_decide_eq_false xh3) (by omega))
      refine Xg.ops_skip (by kernel_rfl) ?_
      refine Xg.ops_skip (by kernel_rfl) ?_
      refine Xg.ops_skip (by kernel_rfl) ?_
      refine Xg.ops_skip (by kernel_rfl) ?_
      refine Xg.ops_op (by kernel_rfl) (Xg.opx_pure ((Value.bool true)) rfl (fun _ => by kernel_rfl) ?_)
      refine Xg.ops_op (by kernel_rfl) (Xg.opx_pure ((Value.bool true)) rfl (fun _ => by kernel_rfl) ?_)
      refine Xg.ops_skip (by kernel_rfl) ?_
      refine Xg.ops_skip (by kernel_rfl) ?_
      refine Xg.ops_skip (by kernel_rfl) ?_
      refine Xg.ops_skip (by kernel_rfl) ?_
      refine Xg.ops_skip (by kernel_rfl) ?_
      refine Xg.ops_op (by kernel_rfl) (Xg.opx_pure ((Value.bool true)) rfl (fun _ => by kernel_rfl) ?_)
      refine Xg.ops_nil ?_
      refine Xg.at_true (t := true) (by kernel_rfl) rfl ?_
      refine Xg.at_seq ?_
      refine Xg.at_region ?_
      refine Xg.ops_op (by kernel_rfl) (Xg.opx_loadn (off := 0) 6 3 [Value.string (St []), iv 0, iv 0, iv 0, iv 0, Value.bool false] (by kernel_rfl) rfl (by kernel_rfl) rfl (Xg.cells_at (by kernel_rfl)) (by kernel_rfl) ?_)
      refine Xg.ops_op (by kernel_rfl) (Xg.opx_storen 6 (off := 0) 4 [Value.string (St []), iv 0, iv 0, iv 0, iv 0, Value.bool false] (by kernel_rfl) rfl (by kernel_rfl) (by kernel_rfl) rfl (by kernel_rfl) (Nat.le_of_ble_eq_true (by kernel_rfl)) ?_)
      refine Xg.ops_op (by kernel_rfl) (Xg.opx_pure ((iv 46)) rfl (fun _ => by kernel_rfl) ?_)
      refine Xg.ops_nil ?_
      refine Xg.at_ret_feed (v := (Value.tuple #[Value.agg #[Value.string (St []), iv 0, iv 0, iv 0, iv 0, Value.bool false], iv 46])) [(Addr.mk xb1 (0 : Nat) none), (Addr.mk xb1 (1 : Nat) none), (Addr.mk xb1 (2 : Nat) none), (Addr.mk xb1 (3 : Nat) none), (Addr.mk xb1 (4 : Nat) none), (Addr.mk xb1 (5 : Nat) none)] [Value.string (St []), iv 0, iv 0, iv 0, iv 0, Value.bool false] [2] [A] Go.Proofs.Try.func25 (by kernel_rfl) (Xg.cells_cons (b := xb1) (off := 0) 4 rfl (by kernel_rfl) (Xg.cells_cons (b := xb1) (off := 1) 4 rfl (by kernel_rfl) (Xg.cells_cons (b := xb1) (off := 2) 4 rfl (by kernel_rfl) (Xg.cells_cons (b := xb1) (off := 3) 4 rfl (by kernel_rfl) (Xg.cells_cons (b := xb1) (off := 4) 4 rfl (by kernel_rfl) (Xg.cells_cons (b := xb1) (off := 5) 4 rfl (by kernel_rfl) Xg.cells_nil)))))) (by kernel_rfl) (by kernel_rfl) ?_
      exact ⟨by kernel_rfl, by kernel_rfl⟩
      refine Xg.ops_skip (by kernel_rfl) ?_
      refine Xg.ops_skip (by kernel_rfl) ?_
      refine Xg.ops_op (by kernel_rfl) (Xg.opx_pure ((Value.bool false)) rfl (fun _ => by kernel_rfl) ?_)
      refine Xg.ops_nil ?_
      refine Xg.at_false (t := false) (by kernel_rfl) rfl ?_
      refine Xg.at_exit rfl ?_
      refine Xg.at_seq ?_
      refine Xg.at_seq ?_
      refine Xg.at_region ?_
      refine Xg.ops_op (by kernel_rfl) (Xg.opx_pure ((Value.slice a n c)) rfl (fun _ => by kernel_rfl) ?_)
      refine Xg.ops_op (by kernel_rfl) (Xg.opx_rd 2 (.pointer (some (Addr.mk (Xg.blk a) (offA a + (328 : Nat)) none))) rfl hR (by kernel_rfl) (Xg.run_ix_rd (elem := 5) (kd := .i64) (e := ((328 : Int))) 1 ((328 : Nat)) (offA a + (328 : Nat)) (by kernel_rfl) (by kernel_rfl) (by kernel_rfl) (by kernel_rfl) rfl (by omega) (by simp only [List.length_map]; omega) (by omega)) ?_)
      refine Xg.ops_op (by kernel_rfl) (Xg.opx_rd 2 (uv (B.getD (328 : Nat) (0 : Int))) rfl hR (by kernel_rfl) (Xg.run_load_rd (off0 := (offA a + (328 : Nat))) ((328 : Nat)) (by kernel_rfl) (by omega) (Xg.get_ints (by omega)) (by kernel_rfl)) ?_)
      refine Xg.ops_op (by kernel_rfl) (Xg.opx_pure (.bool (decide (((B.getD (328 : Nat) (0 : Int)) : Int) > ((6 : Int))))) rfl (fun _ => by kernel_rfl) ?_)
      refine Xg.ops_op (by kernel_rfl) (Xg.opx_pure ((Value.bool (decide (B.getD (328 : Nat) (0 : Int) > (6 : Int))))) rfl (fun _ => by kernel_rfl) ?_)
      refine Xg.ops_flag (j := 83) (c := (decide (B.getD (328 : Nat) (0 : Int) > (6 : Int)))) (by kernel_rfl) (fun _ => ?_) (fun xh3 => absurd (of_decide_eq_false xh3) (by omega))
      refine Xg.ops_skip (by kernel_rfl) ?_
      refine Xg.ops_skip (by kernel_rfl) ?_
      refine Xg.ops_skip (by kernel_rfl) ?_
      refine Xg.ops_skip (by kernel_rfl) ?_
      refine Xg.ops_op (by kernel_rfl) (Xg.opx_pure ((Value.bool true)) rfl (fun _ => by kernel_rfl) ?_)
      refine Xg.ops_op (by kernel_rfl) (Xg.opx_pure ((Value.bool true)) rfl (fun _ => by kernel_rfl) ?_)
      refine Xg.ops_skip (by kernel_rfl) ?_
      refine Xg.ops_skip (by kernel_rfl) ?_
      refine Xg.ops_skip (by kernel_rfl) ?_
      refine Xg.ops_skip (by kernel_rfl) ?_
      refine Xg.ops_skip (by kernel_rfl) ?_
      refine Xg.ops_op (by kernel_rfl) (Xg.opx_pure ((Value.bool true)) rfl (fun _ => by kernel_rfl) ?_)
      refine Xg.ops_nil ?_
      refine Xg.at_true (t := true) (by kernel_rfl) rfl ?_
      refine Xg.at_seq ?_
      refine Xg.at_region ?_
      refine Xg.ops_op (by kernel_rfl) (Xg.opx_loadn (off := 0) 6 3 [Value.string (St []), iv 0, iv 0, iv 0, iv 0, Value.bool false] (by kernel_rfl) rfl (by kernel_rfl) rfl (Xg.cells_at (by kernel_rfl)) (by kernel_rfl) ?_)
      refine Xg.ops_op (by kernel_rfl) (Xg.opx_storen 6 (off := 0) 4 [Value.string (St []), iv 0, iv 0, iv 0, iv 0, Value.bool false] (by kernel_rfl) rfl (by kernel_rfl) (by kernel_rfl) rfl (by kernel_rfl) (Nat.le_of_ble_eq_true (by kernel_rfl)) ?_)
      refine Xg.ops_op (by kernel_rfl) (Xg.opx_pure ((iv 46)) rfl (fun _ => by kernel_rfl) ?_)
      refine Xg.ops_nil ?_
      refine Xg.at_ret_feed (v := (Value.tuple #[Value.agg #[Value.string (St []), iv 0, iv 0, iv 0, iv 0, Value.bool false], iv 46])) [(Addr.mk xb1 (0 : Nat) none), (Addr.mk xb1 (1 : Nat) none), (Addr.mk xb1 (2 : Nat) none), (Addr.mk xb1 (3 : Nat) none), (Addr.mk xb1 (4 : Nat) none), (Addr.mk xb1 (5 : Nat) none)] [Value.string (St []), iv 0, iv 0, iv 0, iv 0, Value.bool false] [2] [A] Go.Proofs.Try.func25 (by kernel_rfl) (Xg.cells_cons (b := xb1) (off := 0) 4 rfl (by kernel_rfl) (Xg.cells_cons (b := xb1) (off := 1) 4 rfl (by kernel_rfl) (Xg.cells_cons (b := xb1) (off := 2) 4 rfl (by kernel_rfl) (Xg.cells_cons (b := xb1) (off := 3) 4 rfl (by kernel_rfl) (Xg.cells_cons (b := xb1) (off := 4) 4 rfl (by kernel_rfl) (Xg.cells_cons (b := xb1) (off := 5) 4 rfl (by kernel_rfl) Xg.cells_nil)))))) (by kernel_rfl) (by kernel_rfl) ?_
      exact ⟨by kernel_rfl, by kernel_rfl⟩)
end Go.Proofs.Ythjhkondmobaeaa

/- cart's law: lent, same, back. -/
namespace Go.Proofs.Ythjhkondmobaeaa
open Go.Sl Go.Xg
set_option linter.unusedVariables false
set_option linter.unusedSimpArgs false
set_option maxHeartbeats 4000000
set_option maxRecDepth 100000

theorem getD_rep (n k : Nat) (v d : Int) (h : k < n) : (List.replicate n v).getD k d = v := by
  simp [List.getD_eq_getElem?_getD, List.getElem?_replicate, h]
theorem getD_app_l (xs ys : List Int) (k : Nat) (h : k < xs.length) : (xs ++ ys).getD k 0 = xs.getD k 0 := by
  simp [List.getD_eq_getElem?_getD, List.getElem?_append_left h]
theorem getD_app_r (xs ys : List Int) (k : Nat) (h : xs.length ≤ k) : (xs ++ ys).getD k 0 = ys.getD (k - xs.length) 0 := by
  simp [List.getD_eq_getElem?_getD, List.getElem?_append_right h]
theorem ext_getD {xs ys : List Int} (hl : xs.length = ys.length) (h : ∀ i, i < xs.length → xs.getD i 0 = ys.getD i 0) : xs = ys := by
  apply List.ext_getElem hl
  intro i h1 h2
  have := h i h1
  rw [List.getD_eq_getElem?_getD, List.getD_eq_getElem?_getD, List.getElem?_eq_getElem h1, List.getElem?_eq_getElem h2] at this
  exact this
theorem lent_d (A : HP) (a : Option Addr) (n c : Nat) (B : List Int) (hn : B.length = n) (hm : n ≤ 140000000000000) (hB : isB B) (hR : Reads A 1 (.slice a n c) n (B.map (Value.int .u8))) :
    Does Try.prog 24 [.slice a n c] [A] (RetE (fun x : Option Addr => x.isNone = false) (fun x => .slice x (n + 8) (n + 8)) (fun x => [bts x (n + 8) (n + 8) (B ++ List.replicate 8 171), A])) := by
  (focus
    refine Xg.spec_of Go.Proofs.Try.func24 rfl Go.Proofs.Try.ntmps24 fun g F => ?_)
  (focus
    refine Xg.at_seq ?_
    refine Xg.at_region ?_
    refine Xg.ops_op (by kernel_rfl) (Xg.opx_pure ((Value.slice none (0 : Nat) (0 : Nat))) rfl (fun _ => by kernel_rfl) ?_)
    refine Xg.ops_nil ?_
    refine Xg.at_seq ?_
    refine Xg.at_region ?_
    refine Xg.ops_op (by kernel_rfl) (Xg.opx_pure ((Value.slice a n c)) rfl (fun _ => by kernel_rfl) ?_)
    refine Xg.ops_op (by kernel_rfl) (Xg.opx_pure ((iv (↑n : Int))) rfl (fun _ => by kernel_rfl) ?_)
    refine Xg.ops_op (by kernel_rfl) (Xg.opx_int .i64 (IntKind.wrap .i64 (((↑n : Int) + (8 : Int)))) rfl (fun _ => by kernel_rfl) (Xg.wrap_i64_in (by omega)) ?_)
    refine Xg.ops_op (by kernel_rfl) (Xg.opx_make_hid (elem := 5) (kd := .u8) (by_ := 1) (k1 := .i64) (k2 := .i64) (n := ((↑n : Int) + (8 : Int))) (c := ((↑n : Int) + (8 : Int))) (((↑n : Int) + (8 : Int)).toNat) (((↑n : Int) + (8 : Int)).toNat) (by kernel_rfl) (by kernel_rfl) (by kernel_rfl) (by kernel_rfl) (by omega) (by omega) (by omega) (by omega) fun xa1 xs1 xh1 xl1 xz1 => ?_)
    refine Xg.ops_op (by kernel_rfl) (Xg.opx_pure ((Value.slice xa1 xs1.length ((↑n : Int) + (8 : Int)).toNat)) rfl (fun _ => by kernel_rfl) ?_)
    refine Xg.ops_nil ?_
    refine Xg.at_seq ?_
    refine Xg.at_region ?_
    refine Xg.ops_op (by kernel_rfl) (Xg.opx_pure ((Value.slice xa1 xs1.length ((↑n : Int) + (8 : Int)).toNat)) rfl (fun _ => by kernel_rfl) ?_)
    refine Xg.ops_op (by kernel_rfl) (Xg.opx_pure ((Value.slice a n c)) rfl (fun _ => by kernel_rfl) ?_)
    refine Xg.ops_op (by kernel_rfl) (Xg.opx_copy_all (elem := 5) (kd := .u8) (xs := xs1) (ys := B) (a := xa1) (n := xs1.length) (c := (((↑n : Int) + (8 : Int)).toNat)) (k := n) (yv := (Value.slice a n c)) 0 1 rfl (by kernel_rfl) (by kernel_rfl) (by kernel_rfl) (by kernel_rfl) (fun _ hS => Xg.reads_rd hR 1 rfl hS) (by first | assumption | omega | (simp; done) | (simp; omega)) (by first | assumption | omega | (simp; done) | (simp; omega)) (by first | assumption | omega | (simp; done) | (simp; omega)) (by first | assumption | omega | (simp; done) | (simp; omega)) ?_)
    refine Xg.ops_nil ?_
    refine Xg.at_seq ?_
    refine Xg.at_seq ?_
    refine Xg.at_region ?_
    refine Xg.ops_op (by kernel_rfl) (Xg.opx_pure ((Value.slice a n c)) rfl (fun _ => by kernel_rfl) ?_)
    refine Xg.ops_op (by kernel_rfl) (Xg.opx_pure ((iv (↑n : Int))) rfl (fun _ => by kernel_rfl) ?_)
    refine Xg.ops_op (by kernel_rfl) (Xg.opx_pure ((iv (↑n : Int))) rfl (fun _ => by kernel_rfl) ?_)
    refine Xg.ops_nil ?_
    refine Xg.at_block ?_)
  rw [xl1, show ((n : Int) + 8).toNat = n + 8 by omega]
  have hlB : (B ++ xs1.drop n).length = n + 8 := by rw [List.length_append, List.length_drop]; omega
  (focus
    refine Xg.at_rounds_inv (α := (Nat × List Int) × (Nat → Value)) (fun x => ((fun x => n ≤ x.1 ∧ x.1 ≤ n + 8 ∧ x.2.length = n + 8 ∧ (∀ k, k < n → x.2.getD k 0 = B.getD k 0) ∧ ∀ k, n ≤ k → k < x.1 → x.2.getD k 0 = 171) : (Nat × List Int) → Prop) x.1) (fun x => ((fun x => n + 8 - x.1) : (Nat × List Int) → Nat) x.1) (fun x => Xg.headT [Value.slice a n c, tu, Value.slice none (0 : Nat) (0 : Nat), Value.slice xa1 (n + (8 : Nat)) (n + (8 : Nat)), iv (↑n : Int), Value.slice a n c, iv (↑n : Int), iv ((↑n : Int) + (8 : Int)), Value.slice xa1 (n + (8 : Nat)) (n + (8 : Nat)), Value.slice xa1 (n + (8 : Nat)) (n + (8 : Nat)), Value.slice a n c, iv (↑n : Int), Value.slice a n c, iv (↑n : Int), tu, tu, tu, tu, tu, tu, tu, tu, tu, tu] [14, 15, 16, 17, 18, 19, 20, 21, 22] (((fun x => [(4, .int .i64 (x.1 : Nat))]) : (Nat × List Int) → List (Nat × Go.Value)) x.1) x.2) (fun x => ((fun x => [bts xa1 (n + 8) (n + 8) x.2, A]) : (Nat × List Int) → List Go.Sl.HP) x.1) (((n, B ++ xs1.drop n)), fun j9 => ([Value.slice a n c, tu, Value.slice none (0 : Nat) (0 : Nat), Value.slice xa1 (n + (8 : Nat)) (n + (8 : Nat)), iv (↑n : Int), Value.slice a n c, iv (↑n : Int), iv ((↑n : Int) + (8 : Int)), Value.slice xa1 (n + (8 : Nat)) (n + (8 : Nat)), Value.slice xa1 (n + (8 : Nat)) (n + (8 : Nat)), Value.slice a n c, iv (↑n : Int), Value.slice a n c, iv (↑n : Int), tu, tu, tu, tu, tu, tu, tu, tu, tu, tu] : List Value).getD j9 undef) (by kernel_rfl) (by kernel_rfl) ?_ ?_)
  · exact ⟨Nat.le_refl _, by show n ≤ n + 8; omega, hlB, fun k hk => getD_app_l _ _ _ (by omega), fun k h1 h2 => absurd (show k < n from h2) (by omega)⟩
  rintro ⟨⟨i, zs⟩, J⟩ hI ih
  obtain ⟨hi0, hi, hl, hf, hg⟩ := hI
  dsimp only at hi0 hi hl hf hg
  (focus
    refine Xg.At.same (T' := [Value.slice a n c, tu, Value.slice none (0 : Nat) (0 : Nat), Value.slice xa1 (n + (8 : Nat)) (n + (8 : Nat)), iv (↑i : Int), Value.slice a n c, iv (↑n : Int), iv ((↑n : Int) + (8 : Int)), Value.slice xa1 (n + (8 : Nat)) (n + (8 : Nat)), Value.slice xa1 (n + (8 : Nat)) (n + (8 : Nat)), Value.slice a n c, iv (↑n : Int), Value.slice a n c, iv (↑n : Int), J 14, J 15, J 16, J 17, J 18, J 19, J 20, J 21, J 22, tu]) (L' := [bts xa1 (n + (8 : Nat)) (n + (8 : Nat)) ((i, zs), J).fst.snd, A]) (by kernel_rfl) rfl ?_)
  by_cases hlt : i < n + 8
  · (focus
      refine Xg.at_seq ?_
      refine Xg.at_seq ?_
      refine Xg.at_region ?_
      refine Xg.ops_op (by kernel_rfl) (Xg.opx_pure ((iv (↑i : Int))) rfl (fun _ => by kernel_rfl) ?_)
      refine Xg.ops_op (by kernel_rfl) (Xg.opx_pure ((Value.slice xa1 (n + (8 : Nat)) (n + (8 : Nat)))) rfl (fun _ => by kernel_rfl) ?_)
      refine Xg.ops_op (by kernel_rfl) (Xg.opx_pure ((iv (↑(n + (8 : Nat)) : Int))) rfl (fun _ => by kernel_rfl) ?_)
      refine Xg.ops_op (by kernel_rfl) (Xg.opx_pure (.bool (decide ((((↑i : Int)) : Int) < ((↑(n + (8 : Nat)) : Int))))) rfl (fun _ => by kernel_rfl) ?_)
      refine Xg.ops_nil ?_
      refine Xg.at_true (t := decide (((↑i : Int) < (↑(n + (8 : Nat)) : Int)))) (by kernel_rfl) (decide_eq_true (by omega)) ?_
      refine Xg.at_skip ?_
      refine Xg.at_seq ?_
      refine Xg.at_block ?_
      refine Xg.at_region ?_
      refine Xg.ops_op (by kernel_rfl) (Xg.opx_pure ((Value.slice xa1 (n + (8 : Nat)) (n + (8 : Nat)))) rfl (fun _ => by kernel_rfl) ?_)
      refine Xg.ops_op (by kernel_rfl) (Xg.opx_pure ((iv (↑i : Int))) rfl (fun _ => by kernel_rfl) ?_)
      refine Xg.ops_op (by kernel_rfl) (Xg.opx_ix_own (elem := 5) (kd := .i64) (e := ((↑i : Int))) 0 1 i i rfl (by kernel_rfl) (by kernel_rfl) (by kernel_rfl) (by kernel_rfl) rfl (by omega) (by omega) ?_)
      refine Xg.ops_op (by kernel_rfl) (Xg.opx_store_own_i (a := xa1) (off := i) (kd := .u8) (xs := (((i, zs), J).fst.snd)) (e := ((171 : Int))) 0 (by kernel_rfl) rfl (by kernel_rfl) (by kernel_rfl) (by first | omega | (simp only [List.length_set]; omega)) ?_)
      refine Xg.ops_nil ?_
      refine Xg.at_inBlock ?_
      refine Xg.at_region ?_
      refine Xg.ops_op (by kernel_rfl) (Xg.opx_pure ((iv (↑i : Int))) rfl (fun _ => by kernel_rfl) ?_)
      refine Xg.ops_op (by kernel_rfl) (Xg.opx_int .i64 (IntKind.wrap .i64 (((↑i : Int) + (1 : Int)))) rfl (fun _ => by kernel_rfl) (Xg.wrap_i64_in (by omega)) ?_)
      refine Xg.ops_op (by kernel_rfl) (Xg.opx_pure ((iv ((↑i : Int) + (1 : Int)))) rfl (fun _ => by kernel_rfl) ?_)
      refine Xg.ops_nil ?_
      refine Xg.at_inLoop ?_)
    (focus
      refine Xg.at_keep [0, 1] (by kernel_rfl) ?_
      refine Xs.same ?_ (fun J9 => ih (((i + 1, zs.set i 171)), J9) ?_ ?_) (by kernel_rfl))
    · rfl
    · refine ⟨by show n ≤ i + 1; omega, hlt, by rw [List.length_set]; exact hl, fun k hk => ?_, fun k hk hk2 => ?_⟩
      · show (zs.set i 171).getD k 0 = _
        rw [getD_set _ _ _ _ (by omega), if_neg (by omega)]; exact hf k hk
      · have hk2 : k < i + 1 := hk2
        show (zs.set i 171).getD k 0 = _
        rw [getD_set _ _ _ _ (by omega)]
        split
        · rfl
        · exact hg k hk (by omega)
    · show n + 8 - (i + 1) < n + 8 - i; omega
  · obtain rfl : zs = B ++ List.replicate 8 171 := ext_getD (by rw [List.length_append, List.length_replicate]; omega) fun k hk => by
      by_cases h : k < n
      · rw [hf k h, getD_app_l _ _ _ (by omega)]
      · rw [hg k (by omega) (by omega), getD_app_r _ _ _ (by omega), getD_rep _ _ _ _ (by omega)]
    (focus
      refine Xg.at_seq ?_
      refine Xg.at_seq ?_
      refine Xg.at_region ?_
      refine Xg.ops_op (by kernel_rfl) (Xg.opx_pure ((iv (↑i : Int))) rfl (fun _ => by kernel_rfl) ?_)
      refine Xg.ops_op (by kernel_rfl) (Xg.opx_pure ((Value.slice xa1 (n + (8 : Nat)) (n + (8 : Nat)))) rfl (fun _ => by kernel_rfl) ?_)
      refine Xg.ops_op (by kernel_rfl) (Xg.opx_pure ((iv (↑(n + (8 : Nat)) : Int))) rfl (fun _ => by kernel_rfl) ?_)
      refine Xg.ops_op (by kernel_rfl) (Xg.opx_pure (.bool (decide ((((↑i : Int)) : Int) < ((↑(n + (8 : Nat)) : Int))))) rfl (fun _ => by kernel_rfl) ?_)
      refine Xg.ops_nil ?_
      refine Xg.at_false (t := decide (((↑i : Int) < (↑(n + (8 : Nat)) : Int)))) (by kernel_rfl) (decide_eq_false (by omega)) ?_
      refine Xg.at_exit rfl ?_
      refine Xg.at_seq ?_
      refine Xg.at_region ?_
      refine Xg.ops_op (by kernel_rfl) (Xg.opx_pure ((Value.slice xa1 (n + (8 : Nat)) (n + (8 : Nat)))) rfl (fun _ => by kernel_rfl) ?_)
      refine Xg.ops_op (by kernel_rfl) (Xg.opx_pure ((Value.slice xa1 (n + (8 : Nat)) (n + (8 : Nat)))) rfl (fun _ => by kernel_rfl) ?_)
      refine Xg.ops_nil ?_
      refine Xg.at_ret_ps (v := (Value.slice xa1 (n + (8 : Nat)) (n + (8 : Nat)))) [0, 1] [bts xa1 (n + (8 : Nat)) (n + (8 : Nat)) (B ++ List.replicate (8 : Nat) (171 : Int)), A] Go.Proofs.Try.func24 (fun _ => by kernel_rfl) (by kernel_rfl) (by kernel_rfl) ?_
      refine ⟨xa1, ?_, by kernel_rfl, by kernel_rfl⟩)
    exact xh1
theorem same_d (A1 A2 : HP) (a b : Option Addr) (n c m c2 : Nat) (xs ys : List Int) (hx : xs.length = n) (hy : ys.length = m) (hn : n ≤ 9223372036854775807) (hm : m ≤ 9223372036854775807) (hR : Reads A1 1 (.slice a n c) n (xs.map (Value.int .u8))) (hR2 : Reads A2 1 (.slice b m c2) m (ys.map (Value.int .u8))) :
    Does Try.prog 18 [.slice a n c, .slice b m c2] [A1, A2] (Ret (.bool (decide (xs = ys))) [A1, A2]) := by
  by_cases hnm : n = m
  · subst hnm
    have hno : ∀ i, i < n → xs.getD i 0 ≠ ys.getD i 0 → decide (xs = ys) = false := fun i hi h => decide_eq_false fun e => h (by rw [e])
    have hyes : ∀ i, (∀ k, k < i → xs.getD k 0 = ys.getD k 0) → i = n → decide (xs = ys) = true := fun i h e => decide_eq_true (ext_getD (by omega) fun k hk => h k (by omega))
    (focus
      refine Xg.spec_of Go.Proofs.Try.func18 rfl Go.Proofs.Try.ntmps18 fun g F => ?_)
    (focus
      refine Xg.at_seq ?_
      refine Xg.at_region ?_
      refine Xg.ops_op (by kernel_rfl) (Xg.opx_pure ((Value.bool false)) rfl (fun _ => by kernel_rfl) ?_)
      refine Xg.ops_nil ?_
      refine Xg.at_seq ?_
      refine Xg.at_seq ?_
      refine Xg.at_region ?_
      refine Xg.ops_op (by kernel_rfl) (Xg.opx_pure ((Value.slice a n c)) rfl (fun _ => by kernel_rfl) ?_)
      refine Xg.ops_op (by kernel_rfl) (Xg.opx_pure ((iv (↑n : Int))) rfl (fun _ => by kernel_rfl) ?_)
      refine Xg.ops_op (by kernel_rfl) (Xg.opx_pure ((Value.slice b n c2)) rfl (fun _ => by kernel_rfl) ?_)
      refine Xg.ops_op (by kernel_rfl) (Xg.opx_pure ((iv (↑n : Int))) rfl (fun _ => by kernel_rfl) ?_)
      refine Xg.ops_op (by kernel_rfl) (Xg.opx_pure (.bool (!decide ((((↑n : Int)) : Int) = ((↑n : Int))))) rfl (fun _ => by kernel_rfl) ?_)
      refine Xg.ops_nil ?_
      refine Xg.at_false (t := !decide (((↑n : Int) = (↑n : Int)))) (by kernel_rfl) (by rw [decide_eq_true (by omega)]; rfl) ?_
      refine Xg.at_skip ?_
      refine Xg.at_seq ?_
      refine Xg.at_seq ?_
      refine Xg.at_region ?_
      refine Xg.ops_op (by kernel_rfl) (Xg.opx_pure ((iv 0)) rfl (fun _ => by kernel_rfl) ?_)
      refine Xg.ops_nil ?_
      refine Xg.at_block ?_)
    (focus
      refine Xg.at_rounds_inv (α := (Nat) × (Nat → Value)) (fun x => ((fun i => i ≤ n ∧ ∀ k, k < i → xs.getD k 0 = ys.getD k 0) : (Nat) → Prop) x.1) (fun x => ((fun i => n - i) : (Nat) → Nat) x.1) (fun x => Xg.headT [Value.slice a n c, Value.slice b n c2, tu, tu, Value.bool false, iv 0, Value.slice a n c, iv (↑n : Int), Value.slice b n c2, iv (↑n : Int), Value.bool !decide ((↑n : Int) = (↑n : Int)), tu, tu, tu, tu, tu, tu, tu, tu, tu, tu, tu, tu, tu, tu, tu] [4, 11, 12, 13, 14, 15, 16, 17, 18, 19, 20, 21, 22, 23, 24, 25] (((fun i => [(5, .int .i64 (i : Nat))]) : (Nat) → List (Nat × Go.Value)) x.1) x.2) (fun x => ((fun i => [A1, A2]) : (Nat) → List Go.Sl.HP) x.1) ((0), fun j9 => ([Value.slice a n c, Value.slice b n c2, tu, tu, Value.bool false, iv 0, Value.slice a n c, iv (↑n : Int), Value.slice b n c2, iv (↑n : Int), Value.bool !decide ((↑n : Int) = (↑n : Int)), tu, tu, tu, tu, tu, tu, tu, tu, tu, tu, tu, tu, tu, tu, tu] : List Value).getD j9 undef) (by kernel_rfl) (by kernel_rfl) ?_ ?_)
    · exact ⟨Nat.zero_le _, fun k hk => absurd hk (Nat.not_lt_zero _)⟩
    rintro ⟨i, J⟩ hI ih
    obtain ⟨hi, hne⟩ := hI
    dsimp only at hi hne
    (focus
      refine Xg.At.same (T' := [Value.slice a n c, Value.slice b n c2, tu, tu, J 4, iv (↑i : Int), Value.slice a n c, iv (↑n : Int), Value.slice b n c2, iv (↑n : Int), Value.bool !decide ((↑n : Int) = (↑n : Int)), J 11, J 12, J 13, J 14, J 15, J 16, J 17, J 18, J 19, J 20, J 21, J 22, J 23, J 24, J 25]) (L' := [A1, A2]) (by kernel_rfl) rfl ?_)
    by_cases hlt : i < n
    · have hh := hno i hlt
      by_cases he : xs.getD i 0 = ys.getD i 0
      · (focus
          refine Xg.at_seq ?_
          refine Xg.at_seq ?_
          refine Xg.at_region ?_
          refine Xg.ops_op (by kernel_rfl) (Xg.opx_pure ((iv (↑i : Int))) rfl (fun _ => by kernel_rfl) ?_)
          refine Xg.ops_op (by kernel_rfl) (Xg.opx_pure ((Value.slice a n c)) rfl (fun _ => by kernel_rfl) ?_)
          refine Xg.ops_op (by kernel_rfl) (Xg.opx_pure ((iv (↑n : Int))) rfl (fun _ => by kernel_rfl) ?_)
          refine Xg.ops_op (by kernel_rfl) (Xg.opx_pure (.bool (decide ((((↑i : Int)) : Int) < ((↑n : Int))))) rfl (fun _ => by kernel_rfl) ?_)
          refine Xg.ops_nil ?_
          refine Xg.at_true (t := decide (((↑i : Int) < (↑n : Int)))) (by kernel_rfl) (decide_eq_true (by omega)) ?_
          refine Xg.at_skip ?_
          refine Xg.at_seq ?_
          refine Xg.at_block ?_
          refine Xg.at_seq ?_
          refine Xg.at_draw [] [(2, [0, 1, 2, 4, 5, 6, 7], (RdIs (1 : Nat) (Value.slice a n c) n (List.map (Value.int IntKind.u8) xs))), (3, [0, 1, 2, 3, 4, 5, 6, 7], (RdIs (1 : Nat) (Value.slice a n c) n (List.map (Value.int IntKind.u8) xs))), (6, [0, 1, 2, 3, 4, 5, 6], (RdIs (1 : Nat) (Value.slice b n c2) n (List.map (Value.int IntKind.u8) ys))), (7, [0, 1, 2, 3, 4, 5, 6, 7], (RdIs (1 : Nat) (Value.slice b n c2) n (List.map (Value.int IntKind.u8) ys)))] (by kernel_rfl) ?_
          refine Xg.any_pure ((Value.slice a n c)) 0 (by kernel_rfl) rfl (by kernel_rfl) (by kernel_rfl) (by kernel_rfl) (by kernel_rfl) rfl (fun _ => by kernel_rfl) ?_
          refine Xg.any_pure ((iv (↑i : Int))) 1 (by kernel_rfl) rfl (by kernel_rfl) (by kernel_rfl) (by kernel_rfl) (by kernel_rfl) rfl (fun _ => by kernel_rfl) ?_
          refine Xg.any_reads (.pointer (some (Addr.mk (Xg.blk a) (offA a + i) none))) 2 0 (by kernel_rfl) rfl (by kernel_rfl) (by kernel_rfl) (by kernel_rfl) (by kernel_rfl) rfl rfl (by kernel_rfl) (Xg.rd_now 0 hR (by kernel_rfl)) (Xg.run_ix_rd (elem := 5) (kd := .i64) (e := ((↑i : Int))) 1 i (offA a + i) (by kernel_rfl) (by kernel_rfl) (by kernel_rfl) (by kernel_rfl) rfl (by omega) (by simp only [List.length_map]; omega) (by omega)) ?_
          refine Xg.any_reads (uv (xs.getD i (0 : Int))) 3 1 (by kernel_rfl) rfl (by kernel_rfl) (by kernel_rfl) (by kernel_rfl) (by kernel_rfl) rfl rfl (by kernel_rfl) (Xg.rd_now 0 hR (by kernel_rfl)) (Xg.run_load_rd (off0 := (offA a + i)) i (by kernel_rfl) (by omega) (Xg.get_ints (by omega)) (by kernel_rfl)) ?_
          refine Xg.any_pure ((Value.slice b n c2)) 4 (by kernel_rfl) rfl (by kernel_rfl) (by kernel_rfl) (by kernel_rfl) (by kernel_rfl) rfl (fun _ => by kernel_rfl) ?_
          refine Xg.any_pure ((iv (↑i : Int))) 5 (by kernel_rfl) rfl (by kernel_rfl) (by kernel_rfl) (by kernel_rfl) (by kernel_rfl) rfl (fun _ => by kernel_rfl) ?_
          refine Xg.any_reads (.pointer (some (Addr.mk (Xg.blk b) (offA b + i) none))) 6 2 (by kernel_rfl) rfl (by kernel_rfl) (by kernel_rfl) (by kernel_rfl) (by kernel_rfl) rfl rfl (by kernel_rfl) (Xg.rd_now 1 hR2 (by kernel_rfl)) (Xg.run_ix_rd (elem := 5) (kd := .i64) (e := ((↑i : Int))) 1 i (offA b + i) (by kernel_rfl) (by kernel_rfl) (by kernel_rfl) (by kernel_rfl) rfl (by omega) (by simp only [List.length_map]; omega) (by omega)) ?_
          refine Xg.any_reads (uv (ys.getD i (0 : Int))) 7 3 (by kernel_rfl) rfl (by kernel_rfl) (by kernel_rfl) (by kernel_rfl) (by kernel_rfl) rfl rfl (by kernel_rfl) (Xg.rd_now 1 hR2 (by kernel_rfl)) (Xg.run_load_rd (off0 := (offA b + i)) i (by kernel_rfl) (by omega) (Xg.get_ints (by omega)) (by kernel_rfl)) ?_
          refine Xg.any_pure (.bool (!decide (((xs.getD i (0 : Int)) : Int) = (ys.getD i (0 : Int))))) 8 (by kernel_rfl) rfl (by kernel_rfl) (by kernel_rfl) (by kernel_rfl) (by kernel_rfl) rfl (fun _ => by kernel_rfl) ?_
          refine Xg.any_nil (by kernel_rfl) ?_
          refine Xg.at_false (t := !decide ((xs.getD i (0 : Int) = ys.getD i (0 : Int)))) (by kernel_rfl) (by rw [decide_eq_true (by omega)]; rfl) ?_
          refine Xg.at_skip ?_
          refine Xg.at_inBlock ?_
          refine Xg.at_region ?_
          refine Xg.ops_op (by kernel_rfl) (Xg.opx_pure ((iv (↑i : Int))) rfl (fun _ => by kernel_rfl) ?_)
          refine Xg.ops_op (by kernel_rfl) (Xg.opx_int .i64 (IntKind.wrap .i64 (((↑i : Int) + (1 : Int)))) rfl (fun _ => by kernel_rfl) (Xg.wrap_i64_in (by omega)) ?_)
          refine Xg.ops_op (by kernel_rfl) (Xg.opx_pure ((iv ((↑i : Int) + (1 : Int)))) rfl (fun _ => by kernel_rfl) ?_)
          refine Xg.ops_nil ?_
          refine Xg.at_inLoop ?_)
        (focus
          refine Xg.at_keep [0, 1] (by kernel_rfl) ?_
          refine Xs.same ?_ (fun J9 => ih (((i + 1)), J9) ?_ ?_) (by kernel_rfl))
        · rfl
        · refine ⟨hlt, fun k hk => ?_⟩
          have hk : k < i + 1 := hk
          by_cases e : k = i
          · subst e; exact he
          · exact hne k (by omega)
        · show n - (i + 1) < n - i; omega
      · have hd := hh he
        (focus
          refine Xg.at_seq ?_
          refine Xg.at_seq ?_
          refine Xg.at_region ?_
          refine Xg.ops_op (by kernel_rfl) (Xg.opx_pure ((iv (↑i : Int))) rfl (fun _ => by kernel_rfl) ?_)
          refine Xg.ops_op (by kernel_rfl) (Xg.opx_pure ((Value.slice a n c)) rfl (fun _ => by kernel_rfl) ?_)
          refine Xg.ops_op (by kernel_rfl) (Xg.opx_pure ((iv (↑n : Int))) rfl (fun _ => by kernel_rfl) ?_)
          refine Xg.ops_op (by kernel_rfl) (Xg.opx_pure (.bool (decide ((((↑i : Int)) : Int) < ((↑n : Int))))) rfl (fun _ => by kernel_rfl) ?_)
          refine Xg.ops_nil ?_
          refine Xg.at_true (t := decide (((↑i : Int) < (↑n : Int)))) (by kernel_rfl) (decide_eq_true (by omega)) ?_
          refine Xg.at_skip ?_
          refine Xg.at_seq ?_
          refine Xg.at_block ?_
          refine Xg.at_seq ?_
          refine Xg.at_draw [] [(2, [0, 1, 2, 4, 5, 6, 7], (RdIs (1 : Nat) (Value.slice a n c) n (List.map (Value.int IntKind.u8) xs))), (3, [0, 1, 2, 3, 4, 5, 6, 7], (RdIs (1 : Nat) (Value.slice a n c) n (List.map (Value.int IntKind.u8) xs))), (6, [0, 1, 2, 3, 4, 5, 6], (RdIs (1 : Nat) (Value.slice b n c2) n (List.map (Value.int IntKind.u8) ys))), (7, [0, 1, 2, 3, 4, 5, 6, 7], (RdIs (1 : Nat) (Value.slice b n c2) n (List.map (Value.int IntKind.u8) ys)))] (by kernel_rfl) ?_
          refine Xg.any_pure ((Value.slice a n c)) 0 (by kernel_rfl) rfl (by kernel_rfl) (by kernel_rfl) (by kernel_rfl) (by kernel_rfl) rfl (fun _ => by kernel_rfl) ?_
          refine Xg.any_pure ((iv (↑i : Int))) 1 (by kernel_rfl) rfl (by kernel_rfl) (by kernel_rfl) (by kernel_rfl) (by kernel_rfl) rfl (fun _ => by kernel_rfl) ?_
          refine Xg.any_reads (.pointer (some (Addr.mk (Xg.blk a) (offA a + i) none))) 2 0 (by kernel_rfl) rfl (by kernel_rfl) (by kernel_rfl) (by kernel_rfl) (by kernel_rfl) rfl rfl (by kernel_rfl) (Xg.rd_now 0 hR (by kernel_rfl)) (Xg.run_ix_rd (elem := 5) (kd := .i64) (e := ((↑i : Int))) 1 i (offA a + i) (by kernel_rfl) (by kernel_rfl) (by kernel_rfl) (by kernel_rfl) rfl (by omega) (by simp only [List.length_map]; omega) (by omega)) ?_
          refine Xg.any_reads (uv (xs.getD i (0 : Int))) 3 1 (by kernel_rfl) rfl (by kernel_rfl) (by kernel_rfl) (by kernel_rfl) (by kernel_rfl) rfl rfl (by kernel_rfl) (Xg.rd_now 0 hR (by kernel_rfl)) (Xg.run_load_rd (off0 := (offA a + i)) i (by kernel_rfl) (by omega) (Xg.get_ints (by omega)) (by kernel_rfl)) ?_
          refine Xg.any_pure ((Value.slice b n c2)) 4 (by kernel_rfl) rfl (by kernel_rfl) (by kernel_rfl) (by kernel_rfl) (by kernel_rfl) rfl (fun _ => by kernel_rfl) ?_
          refine Xg.any_pure ((iv (↑i : Int))) 5 (by kernel_rfl) rfl (by kernel_rfl) (by kernel_rfl) (by kernel_rfl) (by kernel_rfl) rfl (fun _ => by kernel_rfl) ?_
          refine Xg.any_reads (.pointer (some (Addr.mk (Xg.blk b) (offA b + i) none))) 6 2 (by kernel_rfl) rfl (by kernel_rfl) (by kernel_rfl) (by kernel_rfl) (by kernel_rfl) rfl rfl (by kernel_rfl) (Xg.rd_now 1 hR2 (by kernel_rfl)) (Xg.run_ix_rd (elem := 5) (kd := .i64) (e := ((↑i : Int))) 1 i (offA b + i) (by kernel_rfl) (by kernel_rfl) (by kernel_rfl) (by kernel_rfl) rfl (by omega) (by simp only [List.length_map]; omega) (by omega)) ?_
          refine Xg.any_reads (uv (ys.getD i (0 : Int))) 7 3 (by kernel_rfl) rfl (by kernel_rfl) (by kernel_rfl) (by kernel_rfl) (by kernel_rfl) rfl rfl (by kernel_rfl) (Xg.rd_now 1 hR2 (by kernel_rfl)) (Xg.run_load_rd (off0 := (offA b + i)) i (by kernel_rfl) (by omega) (Xg.get_ints (by omega)) (by kernel_rfl)) ?_
          refine Xg.any_pure (.bool (!decide (((xs.getD i (0 : Int)) : Int) = (ys.getD i (0 : Int))))) 8 (by kernel_rfl) rfl (by kernel_rfl) (by kernel_rfl) (by kernel_rfl) (by kernel_rfl) rfl (fun _ => by kernel_rfl) ?_
          refine Xg.any_nil (by kernel_rfl) ?_
          refine Xg.at_true (t := !decide ((xs.getD i (0 : Int) = ys.getD i (0 : Int)))) (by kernel_rfl) (by rw [decide_eq_false (by omega)]; rfl) ?_
          refine Xg.at_seq ?_
          refine Xg.at_region ?_
          refine Xg.ops_op (by kernel_rfl) (Xg.opx_pure ((Value.bool false)) rfl (fun _ => by kernel_rfl) ?_)
          refine Xg.ops_nil ?_
          refine Xg.at_ret_ps (v := (Value.bool false)) [0, 1] [A1, A2] Go.Proofs.Try.func18 (fun _ => by kernel_rfl) (by kernel_rfl) (by kernel_rfl) ?_)
        all_goals (rw [hd]; exact ⟨rfl, rfl⟩)
    · have hd := hyes i hne (by omega)
      (focus
        refine Xg.at_seq ?_
        refine Xg.at_seq ?_
        refine Xg.at_region ?_
        refine Xg.ops_op (by kernel_rfl) (Xg.opx_pure ((iv (↑i : Int))) rfl (fun _ => by kernel_rfl) ?_)
        refine Xg.ops_op (by kernel_rfl) (Xg.opx_pure ((Value.slice a n c)) rfl (fun _ => by kernel_rfl) ?_)
        refine Xg.ops_op (by kernel_rfl) (Xg.opx_pure ((iv (↑n : Int))) rfl (fun _ => by kernel_rfl) ?_)
        refine Xg.ops_op (by kernel_rfl) (Xg.opx_pure (.bool (decide ((((↑i : Int)) : Int) < ((↑n : Int))))) rfl (fun _ => by kernel_rfl) ?_)
        refine Xg.ops_nil ?_
        refine Xg.at_false (t := decide (((↑i : Int) < (↑n : Int)))) (by kernel_rfl) (decide_eq_false (by omega)) ?_
        refine Xg.at_exit rfl ?_
        refine Xg.at_seq ?_
        refine Xg.at_region ?_
        refine Xg.ops_op (by kernel_rfl) (Xg.opx_pure ((Value.bool true)) rfl (fun _ => by kernel_rfl) ?_)
        refine Xg.ops_nil ?_
        refine Xg.at_ret_ps (v := (Value.bool true)) [0, 1] [A1, A2] Go.Proofs.Try.func18 (fun _ => by kernel_rfl) (by kernel_rfl) (by kernel_rfl) ?_)
      all_goals (rw [hd]; exact ⟨rfl, rfl⟩)
  · have hd : decide (xs = ys) = false := decide_eq_false fun e => hnm (by rw [← hx, ← hy, e])
    rw [hd]
    (focus
      refine Xg.spec_of Go.Proofs.Try.func18 rfl Go.Proofs.Try.ntmps18 fun g F => ?_)
    (focus
      refine Xg.at_seq ?_
      refine Xg.at_region ?_
      refine Xg.ops_op (by kernel_rfl) (Xg.opx_pure ((Value.bool false)) rfl (fun _ => by kernel_rfl) ?_)
      refine Xg.ops_nil ?_
      refine Xg.at_seq ?_
      refine Xg.at_seq ?_
      refine Xg.at_region ?_
      refine Xg.ops_op (by kernel_rfl) (Xg.opx_pure ((Value.slice a n c)) rfl (fun _ => by kernel_rfl) ?_)
      refine Xg.ops_op (by kernel_rfl) (Xg.opx_pure ((iv (↑n : Int))) rfl (fun _ => by kernel_rfl) ?_)
      refine Xg.ops_op (by kernel_rfl) (Xg.opx_pure ((Value.slice b m c2)) rfl (fun _ => by kernel_rfl) ?_)
      refine Xg.ops_op (by kernel_rfl) (Xg.opx_pure ((iv (↑m : Int))) rfl (fun _ => by kernel_rfl) ?_)
      refine Xg.ops_op (by kernel_rfl) (Xg.opx_pure (.bool (!decide ((((↑n : Int)) : Int) = ((↑m : Int))))) rfl (fun _ => by kernel_rfl) ?_)
      refine Xg.ops_nil ?_
      refine Xg.at_true (t := !decide (((↑n : Int) = (↑m : Int)))) (by kernel_rfl) (by rw [decide_eq_false (by omega)]; rfl) ?_
      refine Xg.at_seq ?_
      refine Xg.at_region ?_
      refine Xg.ops_op (by kernel_rfl) (Xg.opx_pure ((Value.bool false)) rfl (fun _ => by kernel_rfl) ?_)
      refine Xg.ops_nil ?_
      refine Xg.at_ret_ps (v := (Value.bool false)) [0, 1] [A1, A2] Go.Proofs.Try.func18 (fun _ => by kernel_rfl) (by kernel_rfl) (by kernel_rfl) ?_
      exact ⟨by kernel_rfl, by kernel_rfl⟩)
theorem back_d (A2 : HP) (a b : Option Addr) (n c m c2 : Nat) (xs ys : List Int) (ha : a.isNone = false) (hx : xs.length = n) (hy : ys.length = m) (hn : n ≤ 9223372036854775807) (hmn : m ≤ n) (hnc : n ≤ c) (hv : xs.take m = ys) (h17 : ∀ i, m ≤ i → i < n → xs.getD i 0 = 171) (hR2 : Reads A2 1 (.slice b m c2) m (ys.map (Value.int .u8))) :
    Does Try.prog 26 [.slice a n c, .slice b m c2] [bts a n c xs, A2] (RetE (fun x : List Int => True) (fun x => .bool true) (fun x => [bts a n c x, A2])) := by
  have hR1 : Reads (bts a n c xs) 1 (.slice a m c) m (ys.map (Value.int .u8)) := by
    rw [← hv]; exact reads_pre1 Xg.reads_own m hmn
  have hs := same_d (bts a n c xs) A2 a b m c m c2 ys ys hy hy (by omega) (by omega) hR1 hR2
  rw [decide_eq_true rfl] at hs
  (focus
    refine Xg.spec_of Go.Proofs.Try.func26 rfl Go.Proofs.Try.ntmps26 fun g F => ?_)
  (focus
    refine Xg.at_seq ?_
    refine Xg.at_region ?_
    refine Xg.ops_op (by kernel_rfl) (Xg.opx_pure ((Value.bool false)) rfl (fun _ => by kernel_rfl) ?_)
    refine Xg.ops_nil ?_
    refine Xg.at_seq ?_
    refine Xg.at_region ?_
    refine Xg.ops_op (by kernel_rfl) (Xg.opx_pure ((Value.slice a n c)) rfl (fun _ => by kernel_rfl) ?_)
    refine Xg.ops_op (by kernel_rfl) (Xg.opx_pure ((Value.slice b m c2)) rfl (fun _ => by kernel_rfl) ?_)
    refine Xg.ops_op (by kernel_rfl) (Xg.opx_pure ((iv (↑m : Int))) rfl (fun _ => by kernel_rfl) ?_)
    refine Xg.ops_op (by kernel_rfl) (Xg.opx_run (.slice a m c) rfl (Xg.run_sl_hi (elem := 5) (a := a) (c := c) (len := n) (k2 := .i64) (e2 := ((↑m : Int))) 1 m (by kernel_rfl) (by kernel_rfl) (by kernel_rfl) (by kernel_rfl) rfl (by omega)) ?_)
    refine Xg.ops_op (by kernel_rfl) (Xg.opx_pure ((Value.slice b m c2)) rfl (fun _ => by kernel_rfl) ?_)
    refine Xg.ops_op (by kernel_rfl) (Xg.opx_call1' [0, 1] [bts a n c xs, A2] (fun _ => by kernel_rfl) (@hs ) (by kernel_rfl) (by kernel_rfl) (by kernel_rfl) ?_)
    refine Xg.ops_op (by kernel_rfl) (Xg.opx_pure ((Value.bool true)) rfl (fun _ => by kernel_rfl) ?_)
    refine Xg.ops_nil ?_
    refine Xg.at_seq ?_
    refine Xg.at_seq ?_
    refine Xg.at_region ?_
    refine Xg.ops_op (by kernel_rfl) (Xg.opx_pure ((iv 0)) rfl (fun _ => by kernel_rfl) ?_)
    refine Xg.ops_nil ?_
    refine Xg.at_block ?_)
  (focus
    refine Xg.at_rounds_inv (α := (Nat × List Int) × (Nat → Value)) (fun x => ((fun x => x.1 ≤ n ∧ x.2.length = n ∧ ∀ k, x.1 ≤ k → k < n → x.2.getD k 0 = xs.getD k 0) : (Nat × List Int) → Prop) x.1) (fun x => ((fun x => n - x.1) : (Nat × List Int) → Nat) x.1) (fun x => Xg.headT [Value.slice a n c, Value.slice b m c2, tu, tu, Value.bool false, Value.bool true, iv 0, Value.slice a n c, Value.slice b m c2, iv (↑m : Int), Value.slice a m c, Value.slice b m c2, Value.bool true, tu, tu, tu, tu, tu, tu, tu, tu, tu, tu, tu, tu, tu, tu, tu, tu, tu, tu, tu, tu, tu, tu, tu, tu] [13, 14, 15, 16, 17, 18, 19, 20, 21, 22, 23, 24, 25, 26, 27, 28, 29, 30, 31, 32, 33, 34, 35] (((fun x => [(6, .int .i64 (x.1 : Nat)), (5, .bool true)]) : (Nat × List Int) → List (Nat × Go.Value)) x.1) x.2) (fun x => ((fun x => [bts a n c x.2, A2]) : (Nat × List Int) → List Go.Sl.HP) x.1) (((0, xs)), fun j9 => ([Value.slice a n c, Value.slice b m c2, tu, tu, Value.bool false, Value.bool true, iv 0, Value.slice a n c, Value.slice b m c2, iv (↑m : Int), Value.slice a m c, Value.slice b m c2, Value.bool true, tu, tu, tu, tu, tu, tu, tu, tu, tu, tu, tu, tu, tu, tu, tu, tu, tu, tu, tu, tu, tu, tu, tu, tu] : List Value).getD j9 undef) (by kernel_rfl) (by kernel_rfl) ?_ ?_)
  · exact ⟨Nat.zero_le _, hx, fun k _ _ => rfl⟩
  rintro ⟨⟨i, zs⟩, J⟩ hI ih
  obtain ⟨hi, hl, hf⟩ := hI
  dsimp only at hi hl hf
  (focus
    refine Xg.At.same (T' := [Value.slice a n c, Value.slice b m c2, tu, tu, Value.bool false, Value.bool true, iv (↑i : Int), Value.slice a n c, Value.slice b m c2, iv (↑m : Int), Value.slice a m c, Value.slice b m c2, Value.bool true, J 13, J 14, J 15, J 16, J 17, J 18, J 19, J 20, J 21, J 22, J 23, J 24, J 25, J 26, J 27, J 28, J 29, J 30, J 31, J 32, J 33, J 34, J 35, tu]) (L' := [bts a n c ((i, zs), J).fst.snd, A2]) (by kernel_rfl) rfl ?_)
  by_cases hlt : i < n
  · have h7 := h17 i
    have hg := hf i (Nat.le_refl _) hlt
    by_cases him : i < m
    · (focus
        refine Xg.at_seq ?_
        refine Xg.at_seq ?_
        refine Xg.at_region ?_
        refine Xg.ops_op (by kernel_rfl) (Xg.opx_pure ((iv (↑i : Int))) rfl (fun _ => by kernel_rfl) ?_)
        refine Xg.ops_op (by kernel_rfl) (Xg.opx_pure ((Value.slice a n c)) rfl (fun _ => by kernel_rfl) ?_)
        refine Xg.ops_op (by kernel_rfl) (Xg.opx_pure ((iv (↑n : Int))) rfl (fun _ => by kernel_rfl) ?_)
        refine Xg.ops_op (by kernel_rfl) (Xg.opx_pure (.bool (decide ((((↑i : Int)) : Int) < ((↑n : Int))))) rfl (fun _ => by kernel_rfl) ?_)
        refine Xg.ops_nil ?_
        refine Xg.at_true (t := decide (((↑i : Int) < (↑n : Int)))) (by kernel_rfl) (decide_eq_true (by omega)) ?_
        refine Xg.at_skip ?_
        refine Xg.at_seq ?_
        refine Xg.at_block ?_
        refine Xg.at_seq ?_
        refine Xg.at_region ?_
        refine Xg.ops_op (by kernel_rfl) (Xg.opx_pure ((Value.bool true)) rfl (fun _ => by kernel_rfl) ?_)
        refine Xg.ops_op (by kernel_rfl) (Xg.opx_pure ((Value.bool true)) rfl (fun _ => by kernel_rfl) ?_)
        refine Xg.ops_op (by kernel_rfl) (Xg.opx_pure ((iv (↑i : Int))) rfl (fun _ => by kernel_rfl) ?_)
        refine Xg.ops_op (by kernel_rfl) (Xg.opx_pure ((Value.slice b m c2)) rfl (fun _ => by kernel_rfl) ?_)
        refine Xg.ops_op (by kernel_rfl) (Xg.opx_pure ((iv (↑m : Int))) rfl (fun _ => by kernel_rfl) ?_)
        refine Xg.ops_op (by kernel_rfl) (Xg.opx_pure (.bool (decide ((((↑i : Int)) : Int) < ((↑m : Int))))) rfl (fun _ => by kernel_rfl) ?_)
        refine Xg.ops_op (by kernel_rfl) (Xg.opx_pure ((Value.bool (decide ((↑i : Int) < (↑m : Int))))) rfl (fun _ => by kernel_rfl) ?_)
        refine Xg.ops_flag (j := 25) (c := (decide ((↑i : Int) < (↑m : Int)))) (by kernel_rfl) (fun _ => ?_) (fun xh1 => absurd (of_decide_eq_false xh1) (by omega))
        refine Xg.ops_skip (by kernel_rfl) ?_
        refine Xg.ops_skip (by kernel_rfl) ?_
        refine Xg.ops_skip (by kernel_rfl) ?_
        refine Xg.ops_skip (by kernel_rfl) ?_
        refine Xg.ops_skip (by kernel_rfl) ?_
        refine Xg.ops_op (by kernel_rfl) (Xg.opx_pure ((Value.bool true)) rfl (fun _ => by kernel_rfl) ?_)
        refine Xg.ops_op (by kernel_rfl) (Xg.opx_pure ((Value.bool true)) rfl (fun _ => by kernel_rfl) ?_)
        refine Xg.ops_op (by kernel_rfl) (Xg.opx_pure ((Value.bool true)) rfl (fun _ => by kernel_rfl) ?_)
        refine Xg.ops_nil ?_
        refine Xg.at_region ?_
        refine Xg.ops_op (by kernel_rfl) (Xg.opx_pure ((Value.slice a n c)) rfl (fun _ => by kernel_rfl) ?_)
        refine Xg.ops_op (by kernel_rfl) (Xg.opx_pure ((iv (↑i : Int))) rfl (fun _ => by kernel_rfl) ?_)
        refine Xg.ops_op (by kernel_rfl) (Xg.opx_ix_own (elem := 5) (kd := .i64) (e := ((↑i : Int))) 0 1 i i rfl (by kernel_rfl) (by kernel_rfl) (by kernel_rfl) (by kernel_rfl) rfl (by omega) (by omega) ?_)
        refine Xg.ops_op (by kernel_rfl) (Xg.opx_store_own_i (a := a) (off := i) (kd := .u8) (xs := (((i, zs), J).fst.snd)) (e := ((85 : Int))) 0 (by kernel_rfl) rfl (by kernel_rfl) (by kernel_rfl) (by first | omega | (simp only [List.length_set]; omega)) ?_)
        refine Xg.ops_nil ?_
        refine Xg.at_inBlock ?_
        refine Xg.at_region ?_
        refine Xg.ops_op (by kernel_rfl) (Xg.opx_pure ((iv (↑i : Int))) rfl (fun _ => by kernel_rfl) ?_)
        refine Xg.ops_op (by kernel_rfl) (Xg.opx_int .i64 (IntKind.wrap .i64 (((↑i : Int) + (1 : Int)))) rfl (fun _ => by kernel_rfl) (Xg.wrap_i64_in (by omega)) ?_)
        refine Xg.ops_op (by kernel_rfl) (Xg.opx_pure ((iv ((↑i : Int) + (1 : Int)))) rfl (fun _ => by kernel_rfl) ?_)
        refine Xg.ops_nil ?_
        refine Xg.at_inLoop ?_)
      (focus
        refine Xg.at_keep [0, 1] (by kernel_rfl) ?_
        refine Xs.same ?_ (fun J9 => ih (((i + 1, zs.set i 85)), J9) ?_ ?_) (by kernel_rfl))
      · rfl
      · refine ⟨hlt, by rw [List.length_set]; exact hl, fun k hk hkn => ?_⟩
        have hk : i + 1 ≤ k := hk
        show (zs.set i 85).getD k 0 = xs.getD k 0
        rw [getD_set _ _ _ _ (by omega), if_neg (by omega)]
        exact hf k (by omega) hkn
      · show n - (i + 1) < n - i; omega
    · have hg7 : zs.getD i 0 = 171 := by rw [hg, h7 (by omega) hlt]
      have hl9 : ((i, zs), J).fst.snd.length = n := hl
      (focus
        refine Xg.at_seq ?_
        refine Xg.at_seq ?_
        refine Xg.at_region ?_
        refine Xg.ops_op (by kernel_rfl) (Xg.opx_pure ((iv (↑i : Int))) rfl (fun _ => by kernel_rfl) ?_)
        refine Xg.ops_op (by kernel_rfl) (Xg.opx_pure ((Value.slice a n c)) rfl (fun _ => by kernel_rfl) ?_)
        refine Xg.ops_op (by kernel_rfl) (Xg.opx_pure ((iv (↑n : Int))) rfl (fun _ => by kernel_rfl) ?_)
        refine Xg.ops_op (by kernel_rfl) (Xg.opx_pure (.bool (decide ((((↑i : Int)) : Int) < ((↑n : Int))))) rfl (fun _ => by kernel_rfl) ?_)
        refine Xg.ops_nil ?_
        refine Xg.at_true (t := decide (((↑i : Int) < (↑n : Int)))) (by kernel_rfl) (decide_eq_true (by omega)) ?_
        refine Xg.at_skip ?_
        refine Xg.at_seq ?_
        refine Xg.at_block ?_
        refine Xg.at_seq ?_
        refine Xg.at_region ?_
        refine Xg.ops_op (by kernel_rfl) (Xg.opx_pure ((Value.bool true)) rfl (fun _ => by kernel_rfl) ?_)
        refine Xg.ops_op (by kernel_rfl) (Xg.opx_pure ((Value.bool true)) rfl (fun _ => by kernel_rfl) ?_)
        refine Xg.ops_op (by kernel_rfl) (Xg.opx_pure ((iv (↑i : Int))) rfl (fun _ => by kernel_rfl) ?_)
        refine Xg.ops_op (by kernel_rfl) (Xg.opx_pure ((Value.slice b m c2)) rfl (fun _ => by kernel_rfl) ?_)
        refine Xg.ops_op (by kernel_rfl) (Xg.opx_pure ((iv (↑m : Int))) rfl (fun _ => by kernel_rfl) ?_)
        refine Xg.ops_op (by kernel_rfl) (Xg.opx_pure (.bool (decide ((((↑i : Int)) : Int) < ((↑m : Int))))) rfl (fun _ => by kernel_rfl) ?_)
        refine Xg.ops_op (by kernel_rfl) (Xg.opx_pure ((Value.bool (decide ((↑i : Int) < (↑m : Int))))) rfl (fun _ => by kernel_rfl) ?_)
        refine Xg.ops_flag (j := 25) (c := (decide ((↑i : Int) < (↑m : Int)))) (by kernel_rfl) (fun xh1 => absurd (of_decide_eq_true xh1) (by omega)) (fun _ => ?_)
        refine Xg.ops_op (by kernel_rfl) (Xg.opx_pure ((Value.slice a n c)) rfl (fun _ => by kernel_rfl) ?_)
        refine Xg.ops_op (by kernel_rfl) (Xg.opx_pure ((iv (↑i : Int))) rfl (fun _ => by kernel_rfl) ?_)
        refine Xg.ops_op (by kernel_rfl) (Xg.opx_ix_own (elem := 5) (kd := .i64) (e := ((↑i : Int))) 0 1 i i rfl (by kernel_rfl) (by kernel_rfl) (by kernel_rfl) (by kernel_rfl) rfl (by omega) (by omega) ?_)
        refine Xg.ops_op (by kernel_rfl) (Xg.opx_load_own (a := a) (off := i) 0 (uv (((i, zs), J).fst.snd.getD i (0 : Int))) rfl (by kernel_rfl) (Xg.get_ints (by omega)) (by kernel_rfl) ?_)
        refine Xg.ops_op (by kernel_rfl) (Xg.opx_pure (.bool (decide (((zs.getD i (0 : Int)) : Int) = ((171 : Int))))) rfl (fun _ => by kernel_rfl) ?_)
        refine Xg.ops_flag (j := 30) (c := (decide (zs.getD i (0 : Int) = (171 : Int)))) (by kernel_rfl) (fun _ => ?_) (fun xh1 => absurd (of_decide_eq_false xh1) (by omega))
        refine Xg.ops_op (by kernel_rfl) (Xg.opx_pure ((Value.bool true)) rfl (fun _ => by kernel_rfl) ?_)
        refine Xg.ops_op (by kernel_rfl) (Xg.opx_pure ((Value.bool true)) rfl (fun _ => by kernel_rfl) ?_)
        refine Xg.ops_op (by kernel_rfl) (Xg.opx_pure ((Value.bool true)) rfl (fun _ => by kernel_rfl) ?_)
        refine Xg.ops_nil ?_
        refine Xg.at_region ?_
        refine Xg.ops_op (by kernel_rfl) (Xg.opx_pure ((Value.slice a n c)) rfl (fun _ => by kernel_rfl) ?_)
        refine Xg.ops_op (by kernel_rfl) (Xg.opx_pure ((iv (↑i : Int))) rfl (fun _ => by kernel_rfl) ?_)
        refine Xg.ops_op (by kernel_rfl) (Xg.opx_ix_own (elem := 5) (kd := .i64) (e := ((↑i : Int))) 0 1 i i rfl (by kernel_rfl) (by kernel_rfl) (by kernel_rfl) (by kernel_rfl) rfl (by omega) (by omega) ?_)
        refine Xg.ops_op (by kernel_rfl) (Xg.opx_store_own_i (a := a) (off := i) (kd := .u8) (xs := (((i, zs), J).fst.snd)) (e := ((85 : Int))) 0 (by kernel_rfl) rfl (by kernel_rfl) (by kernel_rfl) (by first | omega | (simp only [List.length_set]; omega)) ?_)
        refine Xg.ops_nil ?_
        refine Xg.at_inBlock ?_
        refine Xg.at_region ?_
        refine Xg.ops_op (by kernel_rfl) (Xg.opx_pure ((iv (↑i : Int))) rfl (fun _ => by kernel_rfl) ?_)
        refine Xg.ops_op (by kernel_rfl) (Xg.opx_int .i64 (IntKind.wrap .i64 (((↑i : Int) + (1 : Int)))) rfl (fun _ => by kernel_rfl) (Xg.wrap_i64_in (by omega)) ?_)
        refine Xg.ops_op (by kernel_rfl) (Xg.opx_pure ((iv ((↑i : Int) + (1 : Int)))) rfl (fun _ => by kernel_rfl) ?_)
        refine Xg.ops_nil ?_
        refine Xg.at_inLoop ?_)
      (focus
        refine Xg.at_keep [0, 1] (by kernel_rfl) ?_
        refine Xs.same ?_ (fun J9 => ih (((i + 1, zs.set i 85)), J9) ?_ ?_) (by kernel_rfl))
      · rfl
      · refine ⟨hlt, by rw [List.length_set]; exact hl, fun k hk hkn => ?_⟩
        have hk : i + 1 ≤ k := hk
        show (zs.set i 85).getD k 0 = xs.getD k 0
        rw [getD_set _ _ _ _ (by omega), if_neg (by omega)]
        exact hf k (by omega) hkn
      · show n - (i + 1) < n - i; omega
  · (focus
      refine Xg.at_seq ?_
      refine Xg.at_seq ?_
      refine Xg.at_region ?_
      refine Xg.ops_op (by kernel_rfl) (Xg.opx_pure ((iv (↑i : Int))) rfl (fun _ => by kernel_rfl) ?_)
      refine Xg.ops_op (by kernel_rfl) (Xg.opx_pure ((Value.slice a n c)) rfl (fun _ => by kernel_rfl) ?_)
      refine Xg.ops_op (by kernel_rfl) (Xg.opx_pure ((iv (↑n : Int))) rfl (fun _ => by kernel_rfl) ?_)
      refine Xg.ops_op (by kernel_rfl) (Xg.opx_pure (.bool (decide ((((↑i : Int)) : Int) < ((↑n : Int))))) rfl (fun _ => by kernel_rfl) ?_)
      refine Xg.ops_nil ?_
      refine Xg.at_false (t := decide (((↑i : Int) < (↑n : Int)))) (by kernel_rfl) (decide_eq_false (by omega)) ?_
      refine Xg.at_exit rfl ?_
      refine Xg.at_seq ?_
      refine Xg.at_region ?_
      refine Xg.ops_op (by kernel_rfl) (Xg.opx_pure ((Value.bool true)) rfl (fun _ => by kernel_rfl) ?_)
      refine Xg.ops_op (by kernel_rfl) (Xg.opx_pure ((Value.bool true)) rfl (fun _ => by kernel_rfl) ?_)
      refine Xg.ops_nil ?_
      refine Xg.at_ret_ps (v := (Value.bool true)) [0, 1] [bts a n c zs, A2] Go.Proofs.Try.func26 (fun _ => by kernel_rfl) (by kernel_rfl) (by kernel_rfl) ?_
      refine ⟨zs, trivial, by kernel_rfl, by kernel_rfl⟩)
end Go.Proofs.Ythjhkondmobaeaa

/- cart's law: sameHead, checked. -/
namespace Go.Proofs.Ythjhkondmobaeaa
open Go.Sl Go.Xg
set_option linter.unusedVariables false
set_option linter.unusedSimpArgs false
set_option maxHeartbeats 4000000
set_option maxRecDepth 100000

theorem sameHead_d (h : Hd) : Does Try.prog 27 [hdV h, hdV h] [] (Ret (.bool true) []) := by
  unfold hdV
  obtain ⟨tt, ty, mp, bk, rm, bt⟩ := h
  dsimp only
  cases bt with
  | true =>
    (focus
      refine Xg.spec_of Go.Proofs.Try.func27 rfl Go.Proofs.Try.ntmps27 fun g F => ?_)
    (focus
      refine Xg.at_seq ?_
      refine Xg.at_region ?_
      refine Xg.ops_op (by kernel_rfl) (Xg.opx_box (v := (Value.agg #[Value.string (St tt), iv ty, iv mp, iv bk, iv rm, Value.bool true])) [Value.string (St tt), iv ty, iv mp, iv bk, iv rm, Value.bool true] (by kernel_rfl) (by kernel_rfl) fun xb1 => ?_)
      refine Xg.ops_op (by kernel_rfl) (Xg.opx_box (v := (Value.agg #[Value.string (St tt), iv ty, iv mp, iv bk, iv rm, Value.bool true])) [Value.string (St tt), iv ty, iv mp, iv bk, iv rm, Value.bool true] (by kernel_rfl) (by kernel_rfl) fun xb2 => ?_)
      refine Xg.ops_op (by kernel_rfl) (Xg.opx_pure ((Value.bool false)) rfl (fun _ => by kernel_rfl) ?_)
      refine Xg.ops_nil ?_
      refine Xg.at_seq ?_
      refine Xg.at_region ?_
      refine Xg.ops_op (by kernel_rfl) (Xg.opx_pure ((pv xb1 0)) rfl (fun _ => by kernel_rfl) ?_)
      refine Xg.ops_op (by kernel_rfl) (Xg.opx_load (b := xb1) (off := ((0 : Nat))) 1 (Value.string (St tt)) rfl (by kernel_rfl) (by kernel_rfl) (by kernel_rfl) ?_)
      refine Xg.ops_op (by kernel_rfl) (Xg.opx_pure ((pv xb2 0)) rfl (fun _ => by kernel_rfl) ?_)
      refine Xg.ops_op (by kernel_rfl) (Xg.opx_load (b := xb2) (off := ((0 : Nat))) 0 (Value.string (St tt)) rfl (by kernel_rfl) (by kernel_rfl) (by kernel_rfl) ?_)
      refine Xg.ops_op (by kernel_rfl) (Xg.opx_run (.bool true) rfl (Xg.run_str_same (xs := tt) (ys := tt) (by kernel_rfl) (by kernel_rfl) (by kernel_rfl) rfl) ?_)
      refine Xg.ops_op (by kernel_rfl) (Xg.opx_pure ((Value.bool true)) rfl (fun _ => by kernel_rfl) ?_)
      refine Xg.ops_op (by kernel_rfl) (Xg.opx_pure ((pv xb1 1)) rfl (fun _ => by kernel_rfl) ?_)
      refine Xg.ops_op (by kernel_rfl) (Xg.opx_load (b := xb1) (off := ((1 : Nat))) 1 (iv ty) rfl (by kernel_rfl) (by kernel_rfl) (by kernel_rfl) ?_)
      refine Xg.ops_op (by kernel_rfl) (Xg.opx_pure ((pv xb2 1)) rfl (fun _ => by kernel_rfl) ?_)
      refine Xg.ops_op (by kernel_rfl) (Xg.opx_load (b := xb2) (off := ((1 : Nat))) 0 (iv ty) rfl (by kernel_rfl) (by kernel_rfl) (by kernel_rfl) ?_)
      refine Xg.ops_op (by kernel_rfl) (Xg.opx_pure (.bool (decide ((ty : Int) = ty))) rfl (fun _ => by kernel_rfl) ?_)
      refine Xg.ops_flag (j := 15) (c := (decide (ty = ty))) (by kernel_rfl) (fun _ => ?_) (fun xh1 => absurd (of_decide_eq_false xh1) (by omega))
      refine Xg.ops_op (by kernel_rfl) (Xg.opx_pure ((Value.bool true)) rfl (fun _ => by kernel_rfl) ?_)
      refine Xg.ops_op (by kernel_rfl) (Xg.opx_pure ((Value.bool true)) rfl (fun _ => by kernel_rfl) ?_)
      refine Xg.ops_op (by kernel_rfl) (Xg.opx_pure ((pv xb1 2)) rfl (fun _ => by kernel_rfl) ?_)
      refine Xg.ops_op (by kernel_rfl) (Xg.opx_load (b := xb1) (off := ((2 : Nat))) 1 (iv mp) rfl (by kernel_rfl) (by kernel_rfl) (by kernel_rfl) ?_)
      refine Xg.ops_op (by kernel_rfl) (Xg.opx_pure ((pv xb2 2)) rfl (fun _ => by kernel_rfl) ?_)
      refine Xg.ops_op (by kernel_rfl) (Xg.opx_load (b := xb2) (off := ((2 : Nat))) 0 (iv mp) rfl (by kernel_rfl) (by kernel_rfl) (by kernel_rfl) ?_)
      refine Xg.ops_op (by kernel_rfl) (Xg.opx_pure (.bool (decide ((mp : Int) = mp))) rfl (fun _ => by kernel_rfl) ?_)
      refine Xg.ops_flag (j := 22) (c := (decide (mp = mp))) (by kernel_rfl) (fun _ => ?_) (fun xh1 => absurd (of_decide_eq_false xh1) (by omega))
      refine Xg.ops_op (by kernel_rfl) (Xg.opx_pure ((Value.bool true)) rfl (fun _ => by kernel_rfl) ?_)
      refine Xg.ops_op (by kernel_rfl) (Xg.opx_pure ((Value.bool true)) rfl (fun _ => by kernel_rfl) ?_)
      refine Xg.ops_op (by kernel_rfl) (Xg.opx_pure ((pv xb1 3)) rfl (fun _ => by kernel_rfl) ?_)
      refine Xg.ops_op (by kernel_rfl) (Xg.opx_load (b := xb1) (off := ((3 : Nat))) 1 (iv bk) rfl (by kernel_rfl) (by kernel_rfl) (by kernel_rfl) ?_)
      refine Xg.ops_op (by kernel_rfl) (Xg.opx_pure ((pv xb2 3)) rfl (fun _ => by kernel_rfl) ?_)
      refine Xg.ops_op (by kernel_rfl) (Xg.opx_load (b := xb2) (off := ((3 : Nat))) 0 (iv bk) rfl (by kernel_rfl) (by kernel_rfl) (by kernel_rfl) ?_)
      refine Xg.ops_op (by kernel_rfl) (Xg.opx_pure (.bool (decide ((bk : Int) = bk))) rfl (fun _ => by kernel_rfl) ?_)
      refine Xg.ops_flag (j := 29) (c := (decide (bk = bk))) (by kernel_rfl) (fun _ => ?_) (fun xh1 => absurd (of_decide_eq_false xh1) (by omega))
      refine Xg.ops_op (by kernel_rfl) (Xg.opx_pure ((Value.bool true)) rfl (fun _ => by kernel_rfl) ?_)
      refine Xg.ops_op (by kernel_rfl) (Xg.opx_pure ((Value.bool true)) rfl (fun _ => by kernel_rfl) ?_)
      refine Xg.ops_op (by kernel_rfl) (Xg.opx_pure ((pv xb1 4)) rfl (fun _ => by kernel_rfl) ?_)
      refine Xg.ops_op (by kernel_rfl) (Xg.opx_load (b := xb1) (off := ((4 : Nat))) 1 (iv rm) rfl (by kernel_rfl) (by kernel_rfl) (by kernel_rfl) ?_)
      refine Xg.ops_op (by kernel_rfl) (Xg.opx_pure ((pv xb2 4)) rfl (fun _ => by kernel_rfl) ?_)
      refine Xg.ops_op (by kernel_rfl) (Xg.opx_load (b := xb2) (off := ((4 : Nat))) 0 (iv rm) rfl (by kernel_rfl) (by kernel_rfl) (by kernel_rfl) ?_)
      refine Xg.ops_op (by kernel_rfl) (Xg.opx_pure (.bool (decide ((rm : Int) = rm))) rfl (fun _ => by kernel_rfl) ?_)
      refine Xg.ops_flag (j := 36) (c := (decide (rm = rm))) (by kernel_rfl) (fun _ => ?_) (fun xh1 => absurd (of_decide_eq_false xh1) (by omega))
      refine Xg.ops_op (by kernel_rfl) (Xg.opx_pure ((Value.bool true)) rfl (fun _ => by kernel_rfl) ?_)
      refine Xg.ops_op (by kernel_rfl) (Xg.opx_pure ((Value.bool true)) rfl (fun _ => by kernel_rfl) ?_)
      refine Xg.ops_op (by kernel_rfl) (Xg.opx_pure ((pv xb1 5)) rfl (fun _ => by kernel_rfl) ?_)
      refine Xg.ops_op (by kernel_rfl) (Xg.opx_load (b := xb1) (off := ((5 : Nat))) 1 (Value.bool true) rfl (by kernel_rfl) (by kernel_rfl) (by kernel_rfl) ?_)
      refine Xg.ops_op (by kernel_rfl) (Xg.opx_pure ((pv xb2 5)) rfl (fun _ => by kernel_rfl) ?_)
      refine Xg.ops_op (by kernel_rfl) (Xg.opx_load (b := xb2) (off := ((5 : Nat))) 0 (Value.bool true) rfl (by kernel_rfl) (by kernel_rfl) (by kernel_rfl) ?_)
      refine Xg.ops_op (by kernel_rfl) (Xg.opx_pure ((Value.bool true)) rfl (fun _ => by kernel_rfl) ?_)
      refine Xg.ops_op (by kernel_rfl) (Xg.opx_pure ((Value.bool true)) rfl (fun _ => by kernel_rfl) ?_)
      refine Xg.ops_op (by kernel_rfl) (Xg.opx_pure ((Value.bool true)) rfl (fun _ => by kernel_rfl) ?_)
      refine Xg.ops_nil ?_
      refine Xg.at_ret_ps (v := (Value.bool true)) [] [] Go.Proofs.Try.func27 (fun _ => by kernel_rfl) (by kernel_rfl) (by kernel_rfl) ?_
      exact ⟨by kernel_rfl, by kernel_rfl⟩)
  | false =>
    (focus
      refine Xg.spec_of Go.Proofs.Try.func27 rfl Go.Proofs.Try.ntmps27 fun g F => ?_)
    (focus
      refine Xg.at_seq ?_
      refine Xg.at_region ?_
      refine Xg.ops_op (by kernel_rfl) (Xg.opx_box (v := (Value.agg #[Value.string (St tt), iv ty, iv mp, iv bk, iv rm, Value.bool false])) [Value.string (St tt), iv ty, iv mp, iv bk, iv rm, Value.bool false] (by kernel_rfl) (by kernel_rfl) fun xb1 => ?_)
      refine Xg.ops_op (by kernel_rfl) (Xg.opx_box (v := (Value.agg #[Value.string (St tt), iv ty, iv mp, iv bk, iv rm, Value.bool false])) [Value.string (St tt), iv ty, iv mp, iv bk, iv rm, Value.bool false] (by kernel_rfl) (by kernel_rfl) fun xb2 => ?_)
      refine Xg.ops_op (by kernel_rfl) (Xg.opx_pure ((Value.bool false)) rfl (fun _ => by kernel_rfl) ?_)
      refine Xg.ops_nil ?_
      refine Xg.at_seq ?_
      refine Xg.at_region ?_
      refine Xg.ops_op (by kernel_rfl) (Xg.opx_pure ((pv xb1 0)) rfl (fun _ => by kernel_rfl) ?_)
      refine Xg.ops_op (by kernel_rfl) (Xg.opx_load (b := xb1) (off := ((0 : Nat))) 1 (Value.string (St tt)) rfl (by kernel_rfl) (by kernel_rfl) (by kernel_rfl) ?_)
      refine Xg.ops_op (by kernel_rfl) (Xg.opx_pure ((pv xb2 0)) rfl (fun _ => by kernel_rfl) ?_)
      refine Xg.ops_op (by kernel_rfl) (Xg.opx_load (b := xb2) (off := ((0 : Nat))) 0 (Value.string (St tt)) rfl (by kernel_rfl) (by kernel_rfl) (by kernel_rfl) ?_)
      refine Xg.ops_op (by kernel_rfl) (Xg.opx_run (.bool true) rfl (Xg.run_str_same (xs := tt) (ys := tt) (by kernel_rfl) (by kernel_rfl) (by kernel_rfl) rfl) ?_)
      refine Xg.ops_op (by kernel_rfl) (Xg.opx_pure ((Value.bool true)) rfl (fun _ => by kernel_rfl) ?_)
      refine Xg.ops_op (by kernel_rfl) (Xg.opx_pure ((pv xb1 1)) rfl (fun _ => by kernel_rfl) ?_)
      refine Xg.ops_op (by kernel_rfl) (Xg.opx_load (b := xb1) (off := ((1 : Nat))) 1 (iv ty) rfl (by kernel_rfl) (by kernel_rfl) (by kernel_rfl) ?_)
      refine Xg.ops_op (by kernel_rfl) (Xg.opx_pure ((pv xb2 1)) rfl (fun _ => by kernel_rfl) ?_)
      refine Xg.ops_op (by kernel_rfl) (Xg.opx_load (b := xb2) (off := ((1 : Nat))) 0 (iv ty) rfl (by kernel_rfl) (by kernel_rfl) (by kernel_rfl) ?_)
      refine Xg.ops_op (by kernel_rfl) (Xg.opx_pure (.bool (decide ((ty : Int) = ty))) rfl (fun _ => by kernel_rfl) ?_)
      refine Xg.ops_flag (j := 15) (c := (decide (ty = ty))) (by kernel_rfl) (fun _ => ?_) (fun xh1 => absurd (of_decide_eq_false xh1) (by omega))
      refine Xg.ops_op (by kernel_rfl) (Xg.opx_pure ((Value.bool true)) rfl (fun _ => by kernel_rfl) ?_)
      refine Xg.ops_op (by kernel_rfl) (Xg.opx_pure ((Value.bool true)) rfl (fun _ => by kernel_rfl) ?_)
      refine Xg.ops_op (by kernel_rfl) (Xg.opx_pure ((pv xb1 2)) rfl (fun _ => by kernel_rfl) ?_)
      refine Xg.ops_op (by kernel_rfl) (Xg.opx_load (b := xb1) (off := ((2 : Nat))) 1 (iv mp) rfl (by kernel_rfl) (by kernel_rfl) (by kernel_rfl) ?_)
      refine Xg.ops_op (by kernel_rfl) (Xg.opx_pure ((pv xb2 2)) rfl (fun _ => by kernel_rfl) ?_)
      refine Xg.ops_op (by kernel_rfl) (Xg.opx_load (b := xb2) (off := ((2 : Nat))) 0 (iv mp) rfl (by kernel_rfl) (by kernel_rfl) (by kernel_rfl) ?_)
      refine Xg.ops_op (by kernel_rfl) (Xg.opx_pure (.bool (decide ((mp : Int) = mp))) rfl (fun _ => by kernel_rfl) ?_)
      refine Xg.ops_flag (j := 22) (c := (decide (mp = mp))) (by kernel_rfl) (fun _ => ?_) (fun xh1 => absurd (of_decide_eq_false xh1) (by omega))
      refine Xg.ops_op (by kernel_rfl) (Xg.opx_pure ((Value.bool true)) rfl (fun _ => by kernel_rfl) ?_)
      refine Xg.ops_op (by kernel_rfl) (Xg.opx_pure ((Value.bool true)) rfl (fun _ => by kernel_rfl) ?_)
      refine Xg.ops_op (by kernel_rfl) (Xg.opx_pure ((pv xb1 3)) rfl (fun _ => by kernel_rfl) ?_)
      refine Xg.ops_op (by kernel_rfl) (Xg.opx_load (b := xb1) (off := ((3 : Nat))) 1 (iv bk) rfl (by kernel_rfl) (by kernel_rfl) (by kernel_rfl) ?_)
      refine Xg.ops_op (by kernel_rfl) (Xg.opx_pure ((pv xb2 3)) rfl (fun _ => by kernel_rfl) ?_)
      refine Xg.ops_op (by kernel_rfl) (Xg.opx_load (b := xb2) (off := ((3 : Nat))) 0 (iv bk) rfl (by kernel_rfl) (by kernel_rfl) (by kernel_rfl) ?_)
      refine Xg.ops_op (by kernel_rfl) (Xg.opx_pure (.bool (decide ((bk : Int) = bk))) rfl (fun _ => by kernel_rfl) ?_)
      refine Xg.ops_flag (j := 29) (c := (decide (bk = bk))) (by kernel_rfl) (fun _ => ?_) (fun xh1 => absurd (of_decide_eq_false xh1) (by omega))
      refine Xg.ops_op (by kernel_rfl) (Xg.opx_pure ((Value.bool true)) rfl (fun _ => by kernel_rfl) ?_)
      refine Xg.ops_op (by kernel_rfl) (Xg.opx_pure ((Value.bool true)) rfl (fun _ => by kernel_rfl) ?_)
      refine Xg.ops_op (by kernel_rfl) (Xg.opx_pure ((pv xb1 4)) rfl (fun _ => by kernel_rfl) ?_)
      refine Xg.ops_op (by kernel_rfl) (Xg.opx_load (b := xb1) (off := ((4 : Nat))) 1 (iv rm) rfl (by kernel_rfl) (by kernel_rfl) (by kernel_rfl) ?_)
      refine Xg.ops_op (by kernel_rfl) (Xg.opx_pure ((pv xb2 4)) rfl (fun _ => by kernel_rfl) ?_)
      refine Xg.ops_op (by kernel_rfl) (Xg.opx_load (b := xb2) (off := ((4 : Nat))) 0 (iv rm) rfl (by kernel_rfl) (by kernel_rfl) (by kernel_rfl) ?_)
      refine Xg.ops_op (by kernel_rfl) (Xg.opx_pure (.bool (decide ((rm : Int) = rm))) rfl (fun _ => by kernel_rfl) ?_)
      refine Xg.ops_flag (j := 36) (c := (decide (rm = rm))) (by kernel_rfl) (fun _ => ?_) (fun xh1 => absurd (of_decide_eq_false xh1) (by omega))
      refine Xg.ops_op (by kernel_rfl) (Xg.opx_pure ((Value.bool true)) rfl (fun _ => by kernel_rfl) ?_)
      refine Xg.ops_op (by kernel_rfl) (Xg.opx_pure ((Value.bool true)) rfl (fun _ => by kernel_rfl) ?_)
      refine Xg.ops_op (by kernel_rfl) (Xg.opx_pure ((pv xb1 5)) rfl (fun _ => by kernel_rfl) ?_)
      refine Xg.ops_op (by kernel_rfl) (Xg.opx_load (b := xb1) (off := ((5 : Nat))) 1 (Value.bool false) rfl (by kernel_rfl) (by kernel_rfl) (by kernel_rfl) ?_)
      refine Xg.ops_op (by kernel_rfl) (Xg.opx_pure ((pv xb2 5)) rfl (fun _ => by kernel_rfl) ?_)
      refine Xg.ops_op (by kernel_rfl) (Xg.opx_load (b := xb2) (off := ((5 : Nat))) 0 (Value.bool false) rfl (by kernel_rfl) (by kernel_rfl) (by kernel_rfl) ?_)
      refine Xg.ops_op (by kernel_rfl) (Xg.opx_pure ((Value.bool true)) rfl (fun _ => by kernel_rfl) ?_)
      refine Xg.ops_op (by kernel_rfl) (Xg.opx_pure ((Value.bool true)) rfl (fun _ => by kernel_rfl) ?_)
      refine Xg.ops_op (by kernel_rfl) (Xg.opx_pure ((Value.bool true)) rfl (fun _ => by kernel_rfl) ?_)
      refine Xg.ops_nil ?_
      refine Xg.at_ret_ps (v := (Value.bool true)) [] [] Go.Proofs.Try.func27 (fun _ => by kernel_rfl) (by kernel_rfl) (by kernel_rfl) ?_
      exact ⟨by kernel_rfl, by kernel_rfl⟩)
theorem checked_d (A : HP) (a : Option Addr) (n c : Nat) (B : List Int) (hn : B.length = n) (hc : n ≤ c) (hm : n ≤ 100000000) (hB : isB B) (hR : Reads A 1 (.slice a n c) n (B.map (Value.int .u8))) :
    Does Try.prog 9 [.slice a n c] [A] (Ret (.bool true) [A]) := by
  have hle := lent_d A a n c B hn (by omega) hB hR
  have hrc := rcheck_d A a n c B hn hc (by omega) hB hR
  have hl8 : (B ++ List.replicate 8 171).length = n + 8 := by rw [List.length_append, List.length_replicate]; omega
  have ht8 : (B ++ List.replicate 8 171).take n = B := by rw [← hn]; simp
  have hf8 : ∀ i, n ≤ i → i < n + 8 → (B ++ List.replicate 8 171).getD i 0 = 171 := fun i h1 h2 => by
    rw [getD_app_r _ _ _ (by omega), getD_rep _ _ _ _ (by omega)]
  obtain ⟨C, hC⟩ : ∃ C, B ++ List.replicate 8 171 = C := ⟨_, rfl⟩
  rw [hC] at hle hl8 ht8 hf8
  obtain ⟨hd, hhd⟩ : ∃ hd, (chk B).1 = hd := ⟨_, rfl⟩
  obtain ⟨er, her⟩ : ∃ er, (chk B).2 = er := ⟨_, rfl⟩
  have hch : ∀ x : Option Addr, Does Try.prog 11 [.slice x n (n + 8)] [bts x (n + 8) (n + 8) C] (Ret (.tuple #[hdV (chk B).1, .int .i64 (chk B).2]) [bts x (n + 8) (n + 8) C]) := fun x => check_d _ x n (n + 8) B hn (by omega) (by omega) hB (by
    have := Xg.reads_pre1 (xs := C) (kd := .u8) (a := x) (n := n + 8) (c := n + 8) (Xg.reads_own (E := 5)) n (by omega)
    rw [ht8] at this
    exact this)
  have hbk : ∀ x : Option Addr, x.isNone = false → Does Try.prog 26 [.slice x (n + 8) (n + 8), .slice a n c] [bts x (n + 8) (n + 8) C, A] (RetE (fun x : List Int => True) (fun x => .bool true) (fun y => [bts x (n + 8) (n + 8) y, A])) := fun x hx =>
    back_d A x a (n + 8) (n + 8) n c C B hx hl8 hn (by omega) (by omega) (by omega) ht8 hf8 hR
  rw [hhd, her] at hrc hch
  have hsh := sameHead_d hd
  unfold hdV at hrc hch hsh
  (focus
    refine Xg.spec_of Go.Proofs.Try.func9 rfl Go.Proofs.Try.ntmps9 fun g F => ?_)
  (focus
    refine Xg.at_seq ?_
    refine Xg.at_region ?_
    refine Xg.ops_op (by kernel_rfl) (Xg.opx_pure ((Value.bool false)) rfl (fun _ => by kernel_rfl) ?_)
    refine Xg.ops_nil ?_
    refine Xg.at_seq ?_
    refine Xg.at_region ?_
    refine Xg.ops_op (by kernel_rfl) (Xg.opx_pure ((Value.slice a n c)) rfl (fun _ => by kernel_rfl) ?_)
    refine Xg.ops_op (by kernel_rfl) (Xg.opx_callE' [0] (fun xx1 => [bts xx1 (n + (8 : Nat)) (n + (8 : Nat)) C, A]) (fun _ => by kernel_rfl) (@hle ) (by kernel_rfl) (by kernel_rfl) (by kernel_rfl) fun xx1 xh1 => ?_)
    try dsimp only at xh1
    refine Xg.ops_op (by kernel_rfl) (Xg.opx_pure ((Value.slice xx1 (n + (8 : Nat)) (n + (8 : Nat)))) rfl (fun _ => by kernel_rfl) ?_)
    refine Xg.ops_nil ?_
    refine Xg.at_seq ?_
    refine Xg.at_region ?_
    refine Xg.ops_op (by kernel_rfl) (Xg.opx_pure ((Value.slice xx1 (n + (8 : Nat)) (n + (8 : Nat)))) rfl (fun _ => by kernel_rfl) ?_)
    refine Xg.ops_op (by kernel_rfl) (Xg.opx_pure ((Value.slice a n c)) rfl (fun _ => by kernel_rfl) ?_)
    refine Xg.ops_op (by kernel_rfl) (Xg.opx_pure ((iv (↑n : Int))) rfl (fun _ => by kernel_rfl) ?_)
    refine Xg.ops_op (by kernel_rfl) (Xg.opx_run (.slice xx1 n (n + (8 : Nat))) rfl (Xg.run_sl_hi (elem := 5) (a := xx1) (c := (n + (8 : Nat))) (len := (n + (8 : Nat))) (k2 := .i64) (e2 := ((↑n : Int))) 1 n (by kernel_rfl) (by kernel_rfl) (by kernel_rfl) (by kernel_rfl) rfl (by omega)) ?_)
    refine Xg.ops_op (by kernel_rfl) (Xg.opx_call1' [0] [bts xx1 (n + (8 : Nat)) (n + (8 : Nat)) C, A] (fun _ => by kernel_rfl) (@hch (xx1)) (by kernel_rfl) (by kernel_rfl) (by kernel_rfl) ?_)
    refine Xg.ops_op (by kernel_rfl) (Xg.opx_pure ((Value.tuple #[Value.agg #[Value.string (St hd.tt), iv hd.ty, iv hd.mp, iv hd.bk, iv hd.rm, Value.bool hd.bt], iv er])) rfl (fun _ => by kernel_rfl) ?_)
    refine Xg.ops_op (by kernel_rfl) (Xg.opx_pure ((Value.agg #[Value.string (St hd.tt), iv hd.ty, iv hd.mp, iv hd.bk, iv hd.rm, Value.bool hd.bt])) rfl (fun _ => by kernel_rfl) ?_)
    refine Xg.ops_op (by kernel_rfl) (Xg.opx_pure ((iv er)) rfl (fun _ => by kernel_rfl) ?_)
    refine Xg.ops_op (by kernel_rfl) (Xg.opx_new 6 [Value.string (ByteArray.mk #[]), iv 0, iv 0, iv 0, iv 0, Value.bool false] (by kernel_rfl) (by kernel_rfl) fun xb1 => ?_)
    refine Xg.ops_op (by kernel_rfl) (Xg.opx_storen 6 (off := 0) 0 [Value.string (St hd.tt), iv hd.ty, iv hd.mp, iv hd.bk, iv hd.rm, Value.bool hd.bt] (by kernel_rfl) rfl (by kernel_rfl) (by kernel_rfl) rfl (by kernel_rfl) (Nat.le_of_ble_eq_true (by kernel_rfl)) ?_)
    refine Xg.ops_op (by kernel_rfl) (Xg.opx_pure ((iv er)) rfl (fun _ => by kernel_rfl) ?_)
    refine Xg.ops_nil ?_
    refine Xg.at_seq ?_
    refine Xg.at_region ?_
    refine Xg.ops_op (by kernel_rfl) (Xg.opx_pure ((Value.slice a n c)) rfl (fun _ => by kernel_rfl) ?_)
    refine Xg.ops_op (by kernel_rfl) (Xg.opx_call1' [2] [A, row xb1 (34 : Nat) [Value.string (St hd.tt), iv hd.ty, iv hd.mp, iv hd.bk, iv hd.rm, Value.bool hd.bt], bts xx1 (n + (8 : Nat)) (n + (8 : Nat)) C] (fun _ => by kernel_rfl) (@hrc ) (by kernel_rfl) (by kernel_rfl) (by kernel_rfl) ?_)
    refine Xg.ops_op (by kernel_rfl) (Xg.opx_pure ((Value.tuple #[Value.agg #[Value.string (St hd.tt), iv hd.ty, iv hd.mp, iv hd.bk, iv hd.rm, Value.bool hd.bt], iv er])) rfl (fun _ => by kernel_rfl) ?_)
    refine Xg.ops_op (by kernel_rfl) (Xg.opx_pure ((Value.agg #[Value.string (St hd.tt), iv hd.ty, iv hd.mp, iv hd.bk, iv hd.rm, Value.bool hd.bt])) rfl (fun _ => by kernel_rfl) ?_)
    refine Xg.ops_op (by kernel_rfl) (Xg.opx_pure ((iv er)) rfl (fun _ => by kernel_rfl) ?_)
    refine Xg.ops_op (by kernel_rfl) (Xg.opx_new 6 [Value.string (ByteArray.mk #[]), iv 0, iv 0, iv 0, iv 0, Value.bool false] (by kernel_rfl) (by kernel_rfl) fun xb2 => ?_)
    refine Xg.ops_op (by kernel_rfl) (Xg.opx_storen 6 (off := 0) 0 [Value.string (St hd.tt), iv hd.ty, iv hd.mp, iv hd.bk, iv hd.rm, Value.bool hd.bt] (by kernel_rfl) rfl (by kernel_rfl) (by kernel_rfl) rfl (by kernel_rfl) (Nat.le_of_ble_eq_true (by kernel_rfl)) ?_)
    refine Xg.ops_op (by kernel_rfl) (Xg.opx_pure ((iv er)) rfl (fun _ => by kernel_rfl) ?_)
    refine Xg.ops_nil ?_
    refine Xg.at_seq ?_
    refine Xg.at_region ?_
    refine Xg.ops_op (by kernel_rfl) (Xg.opx_pure ((Value.slice xx1 (n + (8 : Nat)) (n + (8 : Nat)))) rfl (fun _ => by kernel_rfl) ?_)
    refine Xg.ops_op (by kernel_rfl) (Xg.opx_pure ((Value.slice a n c)) rfl (fun _ => by kernel_rfl) ?_))
  have hb1 := hbk xx1 xh1
  (focus
    refine Xg.ops_op (by kernel_rfl) (Xg.opx_callE' [3, 1] (fun xx2 => [bts xx1 (n + (8 : Nat)) (n + (8 : Nat)) xx2, A, row xb2 (34 : Nat) [Value.string (St hd.tt), iv hd.ty, iv hd.mp, iv hd.bk, iv hd.rm, Value.bool hd.bt], row xb1 (34 : Nat) [Value.string (St hd.tt), iv hd.ty, iv hd.mp, iv hd.bk, iv hd.rm, Value.bool hd.bt]]) (fun _ => by kernel_rfl) (@hb1 ) (by kernel_rfl) (by kernel_rfl) (by kernel_rfl) fun xx2 xh2 => ?_)
    try dsimp only at xh2
    refine Xg.ops_op (by kernel_rfl) (Xg.opx_pure ((Value.bool true)) rfl (fun _ => by kernel_rfl) ?_)
    refine Xg.ops_nil ?_
    refine Xg.at_seq ?_
    refine Xg.at_region ?_
    refine Xg.ops_op (by kernel_rfl) (Xg.opx_pure ((Value.bool true)) rfl (fun _ => by kernel_rfl) ?_)
    refine Xg.ops_op (by kernel_rfl) (Xg.opx_pure ((Value.bool true)) rfl (fun _ => by kernel_rfl) ?_)
    refine Xg.ops_op (by kernel_rfl) (Xg.opx_pure ((iv er)) rfl (fun _ => by kernel_rfl) ?_)
    refine Xg.ops_op (by kernel_rfl) (Xg.opx_pure ((iv er)) rfl (fun _ => by kernel_rfl) ?_)
    refine Xg.ops_op (by kernel_rfl) (Xg.opx_pure (.bool (decide ((er : Int) = er))) rfl (fun _ => by kernel_rfl) ?_)
    refine Xg.ops_flag (j := 31) (c := (decide (er = er))) (by kernel_rfl) (fun _ => ?_) (fun xh3 => absurd (of_decide_eq_false xh3) (by omega))
    refine Xg.ops_op (by kernel_rfl) (Xg.opx_pure ((Value.bool true)) rfl (fun _ => by kernel_rfl) ?_)
    refine Xg.ops_op (by kernel_rfl) (Xg.opx_pure ((Value.bool true)) rfl (fun _ => by kernel_rfl) ?_)
    refine Xg.ops_op (by kernel_rfl) (Xg.opx_loadn (off := 0) 6 3 [Value.string (St hd.tt), iv hd.ty, iv hd.mp, iv hd.bk, iv hd.rm, Value.bool hd.bt] (by kernel_rfl) rfl (by kernel_rfl) rfl (Xg.cells_at (by kernel_rfl)) (by kernel_rfl) ?_)
    refine Xg.ops_op (by kernel_rfl) (Xg.opx_loadn (off := 0) 6 2 [Value.string (St hd.tt), iv hd.ty, iv hd.mp, iv hd.bk, iv hd.rm, Value.bool hd.bt] (by kernel_rfl) rfl (by kernel_rfl) rfl (Xg.cells_at (by kernel_rfl)) (by kernel_rfl) ?_)
    refine Xg.ops_op (by kernel_rfl) (Xg.opx_call1' [] [bts xx1 (n + (8 : Nat)) (n + (8 : Nat)) xx2, A, row xb2 (34 : Nat) [Value.string (St hd.tt), iv hd.ty, iv hd.mp, iv hd.bk, iv hd.rm, Value.bool hd.bt], row xb1 (34 : Nat) [Value.string (St hd.tt), iv hd.ty, iv hd.mp, iv hd.bk, iv hd.rm, Value.bool hd.bt]] (fun _ => by kernel_rfl) (@hsh ) (by kernel_rfl) (by kernel_rfl) (by kernel_rfl) ?_)
    refine Xg.ops_op (by kernel_rfl) (Xg.opx_pure ((Value.bool true)) rfl (fun _ => by kernel_rfl) ?_)
    refine Xg.ops_op (by kernel_rfl) (Xg.opx_pure ((Value.bool true)) rfl (fun _ => by kernel_rfl) ?_)
    refine Xg.ops_nil ?_
    refine Xg.at_ret_ps (v := (Value.bool true)) [1] [A] Go.Proofs.Try.func9 (fun _ => by kernel_rfl) (by kernel_rfl) (by kernel_rfl) ?_
    exact ⟨by kernel_rfl, by kernel_rfl⟩)
end Go.Proofs.Ythjhkondmobaeaa
