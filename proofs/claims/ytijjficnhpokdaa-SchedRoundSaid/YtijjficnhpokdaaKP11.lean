/- The law SchedRound: turns go round. -/
import Derived.Test.YtijjficnhpokdaaKP10
import Derived.Test.YtijjficnhpokdaaKS
namespace Go.Proofs.Ytijjficnhpokdaa
open Go.Sl Go.Xg
set_option linter.unusedVariables false
set_option linter.unusedSimpArgs false
set_option maxHeartbeats 4000000
set_option maxRecDepth 100000

/-- The round behind i turns. -/
def rt (n i : Nat) : List (Int × Bool) := (List.range n).map fun j : Nat => (((i + j : Nat) : Int) % (n : Int), true)
theorem rt_len (n i : Nat) : (rt n i).length = n := by simp [rt]
theorem rt_get (n i j : Nat) (h : j < n) : (rt n i).getD j default = (((i + j : Nat) : Int) % (n : Int), true) := by simp [rt, List.getD, h]
theorem rt_zero (n : Nat) (hn : 0 < n) : rt n 0 = full n := by
  unfold rt full
  apply List.map_congr_left
  intro j hj
  have := List.mem_range.1 hj
  rw [Nat.zero_add, Int.emod_eq_of_lt (by omega) (by omega)]
theorem rt_succ (n i : Nat) (hn : 0 < n) : (rt n i).eraseIdx 0 ++ [(rt n i).getD 0 default] = rt n (i + 1) := by
  obtain ⟨m, rfl⟩ : ∃ m, n = m + 1 := ⟨n - 1, by omega⟩
  have e1 : rt (m + 1) i = (((i + 0 : Nat) : Int) % ((m + 1 : Nat) : Int), true) :: (List.range m).map fun j : Nat => (((i + (j + 1) : Nat) : Int) % ((m + 1 : Nat) : Int), true) := by
    unfold rt; rw [List.range_succ_eq_map, List.map_cons, List.map_map]; rfl
  have e2 : rt (m + 1) (i + 1) = ((List.range m).map fun j : Nat => (((i + 1 + j : Nat) : Int) % ((m + 1 : Nat) : Int), true)) ++ [(((i + 1 + m : Nat) : Int) % ((m + 1 : Nat) : Int), true)] := by
    unfold rt; rw [List.range_succ, List.map_append]; rfl
  have e3 : (((i + 1 + m : Nat) : Int) % ((m + 1 : Nat) : Int)) = (((i + 0 : Nat) : Int) % ((m + 1 : Nat) : Int)) := by
    rw [show ((i + 1 + m : Nat) : Int) = ((i + 0 : Nat) : Int) + ((m + 1 : Nat) : Int) from by omega, Int.add_emod_right]
  rw [e1, e2, e3, List.eraseIdx_cons_zero, List.getD_cons_zero]
  congr 1
  apply List.map_congr_left
  intro j _
  rw [show i + (j + 1) = i + 1 + j from by omega]
theorem idle (k : Nat) (x : Int) (h : 0 ≤ x) : decide (0 ≤ fidx (fun y => x == y) (List.replicate k (-1))) = false := by
  rw [fidx_no _ fun y hy => by rw [List.eq_of_mem_replicate hy]; exact decide_eq_false (by omega)]
  rfl
theorem next_rt (n i k : Nat) (hn : 0 < n) : next (rt n i) (List.replicate k (-1)) = 0 := by
  refine fidx_at default _ 0 (by rw [rt_len]; exact hn) (fun j hj => absurd hj (Nat.not_lt_zero _)) ?_
  rw [rt_get n i 0 hn]
  unfold free
  rw [idle k _ (Int.emod_nonneg _ (by omega))]
  rfl

theorem round_begin (n i k slot p : Nat) (hn : 0 < n) (hn12 : n ≤ 12) (hs : slot < k) : Does Try.prog 13 [.pointer (some ⟨p, 0, none⟩), .int .i64 (slot : Nat)] [SchedP p (rt n i) (List.replicate k (-1))]
    (Ret (.tuple #[.int .i64 ((i : Int) % (n : Int)), .int .i64 0]) [SchedP p (rt n (i + 1)) ((List.replicate k (-1)).set slot ((i : Int) % (n : Int)))]) := by
  have h := begin_d p (rt n i) (List.replicate k (-1)) slot (by rw [rt_len]; omega)
  have e : (List.replicate k (-1 : Int)).getD slot 0 = -1 := by simp [List.getD, hs]
  unfold begV begR begS at h
  rw [next_rt n i k hn, Int.toNat_natCast, e, List.length_replicate, if_neg (by omega), if_neg (by omega), if_pos (by omega), if_pos (by omega), show (0 : Int).toNat = 0 from rfl, rt_succ n i hn, rt_get n i 0 hn] at h
  exact h
theorem round_end (n i k slot p : Nat) (hn : 0 < n) (hs : slot < k) : Does Try.prog 14 [.pointer (some ⟨p, 0, none⟩), .int .i64 (slot : Nat)] [SchedP p (rt n (i + 1)) ((List.replicate k (-1)).set slot ((i : Int) % (n : Int)))]
    (Ret (.tuple #[.int .i64 ((i : Int) % (n : Int)), .int .i64 0]) [SchedP p (rt n (i + 1)) (List.replicate k (-1))]) := by
  have h := end_d p (rt n (i + 1)) ((List.replicate k (-1)).set slot ((i : Int) % (n : Int))) slot
  have e : ((List.replicate k (-1 : Int)).set slot ((i : Int) % (n : Int))).getD slot 0 = (i : Int) % (n : Int) := by simp [List.getD, hs]
  have h0 := Int.emod_nonneg (i : Int) (b := (n : Int)) (by omega)
  rw [Int.toNat_natCast, e, List.length_set, List.length_replicate, if_neg (by omega), if_neg (by omega), List.set_set, show (List.replicate k (-1 : Int)).set slot (-1) = List.replicate k (-1) from by
    apply List.ext_getElem (by simp)
    intro j h1 h2
    simp [List.getElem_set]] at h
  exact h

set_option maxHeartbeats 0 in
theorem pround_d (A : HP) (slots0 : Int) (hsl : i64ok slots0) (many0 : Int) (hma : i64ok many0) (a : Option Addr) (n c : Nat) (xs : List Int) (hn : xs.length = n) (hmx : n ≤ maxLen) (hR : Reads A 1 (.slice a n c) n (xs.map (Value.int .i64))) (hB : ∀ i, i < n → i64ok (xs.getD i 0)) :
    Does Try.prog 5 [.int .i64 slots0, .int .i64 many0, .slice a n c] [A] (Ret (.bool true) [A]) := by
  (focus
    refine Xg.spec_of Go.Proofs.Try.func5 rfl Go.Proofs.Try.ntmps5 fun g F => ?_)
  unfold maxLen at hmx
  (focus
    refine Xg.at_seq ?_
    refine Xg.at_region ?_
    refine Xg.ops_op (by kernel_rfl) (Xg.opx_pure ((Value.bool false)) rfl (fun _ => by kernel_rfl) ?_)
    refine Xg.ops_nil ?_
    refine Xg.at_seq ?_
    refine Xg.at_region ?_
    refine Xg.ops_op (by kernel_rfl) (Xg.opx_call1' [] [A] (fun _ => by kernel_rfl) (@Go.Proofs.Ytijjficnhpokdaa.begun_d ) (by kernel_rfl) (by kernel_rfl) (by kernel_rfl) ?_)
    refine Xg.ops_op (by kernel_rfl) (Xg.opx_pure ((Value.bool true)) rfl (fun _ => by kernel_rfl) ?_)
    refine Xg.ops_nil ?_
    refine Xg.at_seq ?_
    refine Xg.at_region ?_
    refine Xg.ops_op (by kernel_rfl) (Xg.opx_pure ((iv slots0)) rfl (fun _ => by kernel_rfl) ?_)
    refine Xg.ops_op (by kernel_rfl) (Xg.opx_callE' [] (fun xx1 => [A]) (fun _ => by kernel_rfl) (@Go.Proofs.Ytijjficnhpokdaa.pick_d (slots0) ((nat_lit 8)) (by omega) (by first | rfl | decide | (constructor <;> omega) | (simp; done) | (simp; omega))) (by kernel_rfl) (by kernel_rfl) (by kernel_rfl) fun xx1 xh1 => ?_)
    try dsimp only at xh1
    obtain ⟨xh1_0, xh1_1⟩ := xh1
    refine Xg.ops_op (by kernel_rfl) (Xg.opx_int .i64 (IntKind.wrap .i64 (((1 : Int) + (↑xx1 : Int)))) rfl (fun _ => by kernel_rfl) (Xg.wrap_i64_in (by omega)) ?_)
    refine Xg.ops_op (by kernel_rfl) (Xg.opx_pure ((iv ((1 : Int) + (↑xx1 : Int)))) rfl (fun _ => by kernel_rfl) ?_)
    refine Xg.ops_nil ?_
    refine Xg.at_seq ?_
    refine Xg.at_region ?_
    refine Xg.ops_op (by kernel_rfl) (Xg.opx_pure ((iv many0)) rfl (fun _ => by kernel_rfl) ?_)
    refine Xg.ops_op (by kernel_rfl) (Xg.opx_callE' [] (fun xx2 => [A]) (fun _ => by kernel_rfl) (@Go.Proofs.Ytijjficnhpokdaa.pick_d (many0) ((nat_lit 12)) (by omega) (by first | rfl | decide | (constructor <;> omega) | (simp; done) | (simp; omega))) (by kernel_rfl) (by kernel_rfl) (by kernel_rfl) fun xx2 xh2 => ?_)
    try dsimp only at xh2
    obtain ⟨xh2_0, xh2_1⟩ := xh2
    refine Xg.ops_op (by kernel_rfl) (Xg.opx_int .i64 (IntKind.wrap .i64 (((1 : Int) + (↑xx2 : Int)))) rfl (fun _ => by kernel_rfl) (Xg.wrap_i64_in (by omega)) ?_)
    refine Xg.ops_op (by kernel_rfl) (Xg.opx_pure ((iv ((1 : Int) + (↑xx2 : Int)))) rfl (fun _ => by kernel_rfl) ?_)
    refine Xg.ops_nil ?_
    refine Xg.at_seq ?_
    refine Xg.at_region ?_
    refine Xg.ops_op (by kernel_rfl) (Xg.opx_pure ((iv ((1 : Int) + (↑xx1 : Int)))) rfl (fun _ => by kernel_rfl) ?_)
    refine Xg.ops_op (by kernel_rfl) (Xg.opx_pure ((iv ((1 : Int) + (↑xx2 : Int)))) rfl (fun _ => by kernel_rfl) ?_)
    refine Xg.ops_op (by kernel_rfl) (Xg.opx_callE' [] (fun xx3 => [SchedP xx3 (full (nat_lit 1 + xx2)) (List.replicate (nat_lit 1 + xx1) (-1 : Int)), A]) (fun _ => by kernel_rfl) (@Go.Proofs.Ytijjficnhpokdaa.made_d ((nat_lit 1 + xx1)) ((nat_lit 1 + xx2)) (by first | rfl | decide | (constructor <;> omega) | (simp; done) | (simp; omega)) (by first | rfl | decide | (constructor <;> omega) | (simp; done) | (simp; omega)) (by first | rfl | decide | (constructor <;> omega) | (simp; done) | (simp; omega))) (by kernel_rfl) (by kernel_rfl) (by kernel_rfl) fun xx3 xh3 => ?_)
    try dsimp only at xh3
    refine Xg.ops_op (by kernel_rfl) (Xg.opx_pure ((pv xx3 0)) rfl (fun _ => by kernel_rfl) ?_)
    refine Xg.ops_nil ?_
    refine Xg.at_seq ?_
    refine Xg.at_seq ?_
    refine Xg.at_region ?_
    refine Xg.ops_op (by kernel_rfl) (Xg.opx_pure ((Value.bool true)) rfl (fun _ => by kernel_rfl) ?_)
    refine Xg.ops_op (by kernel_rfl) (Xg.opx_pure (.bool false) rfl (fun _ => by kernel_rfl) ?_)
    refine Xg.ops_op (by kernel_rfl) (Xg.opx_pure ((Value.bool false)) rfl (fun _ => by kernel_rfl) ?_)
    refine Xg.ops_op (by kernel_rfl) (Xg.opx_pure ((pv xx3 0)) rfl (fun _ => by kernel_rfl) ?_)
    refine Xg.ops_op (by kernel_rfl) (Xg.opx_pure ((Value.bool false)) rfl (fun _ => by kernel_rfl) ?_)
    refine Xg.ops_op (by kernel_rfl) (Xg.opx_pure ((Value.bool false)) rfl (fun _ => by kernel_rfl) ?_)
    refine Xg.ops_nil ?_
    refine Xg.at_false (t := false) (by kernel_rfl) rfl ?_
    refine Xg.at_skip ?_
    refine Xg.at_seq ?_
    refine Xg.at_seq ?_
    refine Xg.at_region ?_
    refine Xg.ops_op (by kernel_rfl) (Xg.opx_pure ((iv 0)) rfl (fun _ => by kernel_rfl) ?_)
    refine Xg.ops_nil ?_
    refine Xg.at_block ?_)
  rw [← rt_zero (1 + xx2) (by omega)]
  have hb := fun i slot hs => round_begin (1 + xx2) i (1 + xx1) slot xx3 (by omega) (by omega) hs
  have he := fun i slot hs => round_end (1 + xx2) i (1 + xx1) slot xx3 (by omega) hs
  (focus
    refine Xg.at_rounds_inv (α := (Nat) × (Nat → Value)) (fun x => ((fun i => i ≤ n) : (Nat) → Prop) x.1) (fun x => ((fun i => n - i) : (Nat) → Nat) x.1) (fun x => Xg.headT [iv slots0, iv many0, Value.slice a n c, tu, tu, tu, Value.bool false, Value.bool true, iv ((1 : Int) + (↑xx1 : Int)), iv ((1 : Int) + (↑xx2 : Int)), pv xx3 0, iv 0, tu, tu, tu, tu, tu, Value.bool true, iv slots0, iv (↑xx1 : Int), iv ((1 : Int) + (↑xx1 : Int)), iv many0, iv (↑xx2 : Int), iv ((1 : Int) + (↑xx2 : Int)), iv ((1 : Int) + (↑xx1 : Int)), iv ((1 : Int) + (↑xx2 : Int)), pv xx3 0, Value.bool true, Value.bool false, Value.bool false, pv xx3 0, Value.bool false, Value.bool false, tu, tu, tu, tu, tu, tu, tu, tu, tu, tu, tu, tu, tu, tu, tu, tu, tu, tu, tu, tu, tu, tu, tu, tu, tu, tu, tu, tu, tu, tu, tu, tu, tu, tu, tu, tu, tu, tu, tu, tu, tu, tu] [6, 12, 13, 14, 15, 16, 33, 34, 35, 36, 37, 38, 39, 40, 41, 42, 43, 44, 45, 46, 47, 48, 49, 50, 51, 52, 53, 54, 55, 56, 57, 58, 59, 60, 61, 62, 63, 64, 65, 66, 67, 68, 69, 70, 71, 72, 73, 74] (((fun i => [(11, .int .i64 (i : Nat))]) : (Nat) → List (Nat × Go.Value)) x.1) x.2) (fun x => ((fun i => [SchedP xx3 (rt (1 + xx2) i) (List.replicate (1 + xx1) (-1)), A]) : (Nat) → List Go.Sl.HP) x.1) ((0), fun j => ([iv slots0, iv many0, Value.slice a n c, tu, tu, tu, Value.bool false, Value.bool true, iv ((1 : Int) + (↑xx1 : Int)), iv ((1 : Int) + (↑xx2 : Int)), pv xx3 0, iv 0, tu, tu, tu, tu, tu, Value.bool true, iv slots0, iv (↑xx1 : Int), iv ((1 : Int) + (↑xx1 : Int)), iv many0, iv (↑xx2 : Int), iv ((1 : Int) + (↑xx2 : Int)), iv ((1 : Int) + (↑xx1 : Int)), iv ((1 : Int) + (↑xx2 : Int)), pv xx3 0, Value.bool true, Value.bool false, Value.bool false, pv xx3 0, Value.bool false, Value.bool false, tu, tu, tu, tu, tu, tu, tu, tu, tu, tu, tu, tu, tu, tu, tu, tu, tu, tu, tu, tu, tu, tu, tu, tu, tu, tu, tu, tu, tu, tu, tu, tu, tu, tu, tu, tu, tu, tu, tu, tu, tu, tu] : List Value).getD j undef) (by kernel_rfl) (by kernel_rfl) ?_ ?_)
  · exact Nat.zero_le _
  rintro ⟨i, J⟩ hi ih
  dsimp only at hi
  (focus
    refine Xg.At.same (T' := [iv slots0, iv many0, Value.slice a n c, tu, tu, tu, J 6, Value.bool true, iv ((1 : Int) + (↑xx1 : Int)), iv ((1 : Int) + (↑xx2 : Int)), pv xx3 0, iv (↑i : Int), J 12, J 13, J 14, J 15, J 16, Value.bool true, iv slots0, iv (↑xx1 : Int), iv ((1 : Int) + (↑xx1 : Int)), iv many0, iv (↑xx2 : Int), iv ((1 : Int) + (↑xx2 : Int)), iv ((1 : Int) + (↑xx1 : Int)), iv ((1 : Int) + (↑xx2 : Int)), pv xx3 0, Value.bool true, Value.bool false, Value.bool false, pv xx3 0, Value.bool false, Value.bool false, J 33, J 34, J 35, J 36, J 37, J 38, J 39, J 40, J 41, J 42, J 43, J 44, J 45, J 46, J 47, J 48, J 49, J 50, J 51, J 52, J 53, J 54, J 55, J 56, J 57, J 58, J 59, J 60, J 61, J 62, J 63, J 64, J 65, J 66, J 67, J 68, J 69, J 70, J 71, J 72, J 73, J 74]) (L' := [SchedP xx3 (rt ((1 : Nat) + xx2) (i, J).fst) (List.replicate ((1 : Nat) + xx1) (-1 : Int)), A]) (by kernel_rfl) rfl ?_)
  by_cases hlt : i < n
  · have hBi := hB i hlt
    have hme : (i : Int) % ((1 : Int) + (xx2 : Int)) = (i : Int) % ((1 + xx2 : Nat) : Int) := by rw [show ((1 + xx2 : Nat) : Int) = (1 : Int) + (xx2 : Int) from by omega]
    (focus
      refine Xg.at_seq ?_
      refine Xg.at_seq ?_
      refine Xg.at_region ?_
      refine Xg.ops_op (by kernel_rfl) (Xg.opx_pure ((iv (↑i : Int))) rfl (fun _ => by kernel_rfl) ?_)
      refine Xg.ops_op (by kernel_rfl) (Xg.opx_pure ((Value.slice a n c)) rfl (fun _ => by kernel_rfl) ?_)
      refine Xg.ops_op (by kernel_rfl) (Xg.opx_pure ((iv (↑n : Int))) rfl (fun _ => by kernel_rfl) ?_)
      refine Xg.ops_op (by kernel_rfl) (Xg.opx_pure (.bool (decide ((((↑i : Int)) : Int) < ((↑n : Int))))) rfl (fun _ => by kernel_rfl) ?_)
      refine Xg.ops_nil ?_
      refine Xg.at_true (t := decide (((↑i : Int) < (↑n : Int)))) (by kernel_rfl) (decide_eq_true (by omega)) ?_
      refine Xg.at_skip ?_
      refine Xg.at_seq ?_
      refine Xg.at_block ?_
      refine Xg.at_seq ?_
      refine Xg.at_region ?_
      refine Xg.ops_op (by kernel_rfl) (Xg.opx_pure ((Value.slice a n c)) rfl (fun _ => by kernel_rfl) ?_)
      refine Xg.ops_op (by kernel_rfl) (Xg.opx_pure ((iv (↑i : Int))) rfl (fun _ => by kernel_rfl) ?_)
      refine Xg.ops_op (by kernel_rfl) (Xg.opx_rd 1 (.pointer (some (Addr.mk (Xg.blk a) (offA a + i) none))) rfl hR (by kernel_rfl) (Xg.run_ix_rd (elem := 3) (kd := .i64) (e := ((↑i : Int))) 1 i (offA a + i) (by kernel_rfl) (by kernel_rfl) (by kernel_rfl) (by kernel_rfl) rfl (by omega) (by simp only [List.length_map]; omega) (by omega)) ?_)
      refine Xg.ops_op (by kernel_rfl) (Xg.opx_rd 1 (iv (xs.getD i (0 : Int))) rfl hR (by kernel_rfl) (Xg.run_load_rd (off0 := (offA a + i)) i (by kernel_rfl) (by omega) (Xg.get_ints (by omega)) (by kernel_rfl)) ?_)
      refine Xg.ops_op (by kernel_rfl) (Xg.opx_pure ((iv ((1 : Int) + (↑xx1 : Int)))) rfl (fun _ => by kernel_rfl) ?_)
      refine Xg.ops_op (by kernel_rfl) (Xg.opx_callE' [] (fun xx4 => [SchedP xx3 (rt ((1 : Nat) + xx2) i) (List.replicate ((1 : Nat) + xx1) (-1 : Int)), A]) (fun _ => by kernel_rfl) (@Go.Proofs.Ytijjficnhpokdaa.pick_d ((xs.getD i (0 : Int))) ((nat_lit 1 + xx1)) (by omega) (by first | rfl | decide | (constructor <;> omega) | (simp; done) | (simp; omega))) (by kernel_rfl) (by kernel_rfl) (by kernel_rfl) fun xx4 xh4 => ?_)
      try dsimp only at xh4
      obtain ⟨xh4_0, xh4_1⟩ := xh4
      refine Xg.ops_op (by kernel_rfl) (Xg.opx_pure ((iv (↑xx4 : Int))) rfl (fun _ => by kernel_rfl) ?_)
      refine Xg.ops_nil ?_
      refine Xg.at_seq ?_
      refine Xg.at_region ?_
      refine Xg.ops_op (by kernel_rfl) (Xg.opx_pure ((pv xx3 0)) rfl (fun _ => by kernel_rfl) ?_)
      refine Xg.ops_op (by kernel_rfl) (Xg.opx_pure ((iv (↑xx4 : Int))) rfl (fun _ => by kernel_rfl) ?_)
      refine Xg.ops_op (by kernel_rfl) (Xg.opx_call1' [0] [SchedP xx3 (rt ((1 : Nat) + xx2) (i + (1 : Nat))) ((List.replicate ((1 : Nat) + xx1) (-1 : Int)).set xx4 ((↑i : Int) % (↑((1 : Nat) + xx2) : Int))), A] (fun _ => by kernel_rfl) (@hb (i) (xx4) (by omega)) (by kernel_rfl) (by kernel_rfl) (by kernel_rfl) ?_)
      refine Xg.ops_op (by kernel_rfl) (Xg.opx_pure ((Value.tuple #[iv ((↑i : Int) % (↑((1 : Nat) + xx2) : Int)), iv 0])) rfl (fun _ => by kernel_rfl) ?_)
      refine Xg.ops_op (by kernel_rfl) (Xg.opx_pure ((iv ((↑i : Int) % (↑((1 : Nat) + xx2) : Int)))) rfl (fun _ => by kernel_rfl) ?_)
      refine Xg.ops_op (by kernel_rfl) (Xg.opx_pure ((iv 0)) rfl (fun _ => by kernel_rfl) ?_)
      refine Xg.ops_op (by kernel_rfl) (Xg.opx_pure ((iv ((↑i : Int) % (↑((1 : Nat) + xx2) : Int)))) rfl (fun _ => by kernel_rfl) ?_)
      refine Xg.ops_op (by kernel_rfl) (Xg.opx_pure ((iv 0)) rfl (fun _ => by kernel_rfl) ?_)
      refine Xg.ops_nil ?_
      refine Xg.at_seq ?_
      refine Xg.at_region ?_
      refine Xg.ops_op (by kernel_rfl) (Xg.opx_pure ((pv xx3 0)) rfl (fun _ => by kernel_rfl) ?_)
      refine Xg.ops_op (by kernel_rfl) (Xg.opx_pure ((iv (↑xx4 : Int))) rfl (fun _ => by kernel_rfl) ?_)
      refine Xg.ops_op (by kernel_rfl) (Xg.opx_call1' [0] [SchedP xx3 (rt ((1 : Nat) + xx2) (i + (1 : Nat))) (List.replicate ((1 : Nat) + xx1) (-1 : Int)), A] (fun _ => by kernel_rfl) (@he (i) (xx4) (by omega)) (by kernel_rfl) (by kernel_rfl) (by kernel_rfl) ?_)
      refine Xg.ops_op (by kernel_rfl) (Xg.opx_pure ((Value.tuple #[iv ((↑i : Int) % (↑((1 : Nat) + xx2) : Int)), iv 0])) rfl (fun _ => by kernel_rfl) ?_)
      refine Xg.ops_op (by kernel_rfl) (Xg.opx_pure ((iv ((↑i : Int) % (↑((1 : Nat) + xx2) : Int)))) rfl (fun _ => by kernel_rfl) ?_)
      refine Xg.ops_op (by kernel_rfl) (Xg.opx_pure ((iv 0)) rfl (fun _ => by kernel_rfl) ?_)
      refine Xg.ops_op (by kernel_rfl) (Xg.opx_pure ((iv ((↑i : Int) % (↑((1 : Nat) + xx2) : Int)))) rfl (fun _ => by kernel_rfl) ?_)
      refine Xg.ops_op (by kernel_rfl) (Xg.opx_pure ((iv 0)) rfl (fun _ => by kernel_rfl) ?_)
      refine Xg.ops_nil ?_
      refine Xg.at_seq ?_
      refine Xg.at_region ?_
      refine Xg.ops_op (by kernel_rfl) (Xg.opx_pure ((iv 0)) rfl (fun _ => by kernel_rfl) ?_)
      refine Xg.ops_op (by kernel_rfl) (Xg.opx_pure ((Value.bool false)) rfl (fun _ => by kernel_rfl) ?_)
      refine Xg.ops_op (by kernel_rfl) (Xg.opx_pure ((Value.bool false)) rfl (fun _ => by kernel_rfl) ?_)
      refine Xg.ops_op (by kernel_rfl) (Xg.opx_pure ((iv 0)) rfl (fun _ => by kernel_rfl) ?_)
      refine Xg.ops_op (by kernel_rfl) (Xg.opx_pure ((Value.bool false)) rfl (fun _ => by kernel_rfl) ?_)
      refine Xg.ops_op (by kernel_rfl) (Xg.opx_pure ((Value.bool false)) rfl (fun _ => by kernel_rfl) ?_)
      refine Xg.ops_op (by kernel_rfl) (Xg.opx_pure ((Value.bool false)) rfl (fun _ => by kernel_rfl) ?_)
      refine Xg.ops_op (by kernel_rfl) (Xg.opx_pure ((iv ((↑i : Int) % (↑((1 : Nat) + xx2) : Int)))) rfl (fun _ => by kernel_rfl) ?_)
      refine Xg.ops_op (by kernel_rfl) (Xg.opx_pure ((iv (↑i : Int))) rfl (fun _ => by kernel_rfl) ?_)
      refine Xg.ops_op (by kernel_rfl) (Xg.opx_pure ((iv ((1 : Int) + (↑xx2 : Int)))) rfl (fun _ => by kernel_rfl) ?_)
      refine Xg.ops_op (by kernel_rfl) (Xg.opx_run (.int .i64 (((↑i : Int)) % ((1 : Int) + (↑xx2 : Int)))) rfl (fun _ => Xg.run_rem (k1 := .i64) (m := ((↑i : Int))) (e := ((1 : Int) + (↑xx2 : Int))) (by kernel_rfl) (by kernel_rfl) (by omega) (by omega)) ?_)
      refine Xg.ops_op (by kernel_rfl) (Xg.opx_pure (.bool (!decide ((((↑i : Int) % (↑((1 : Nat) + xx2) : Int)) : Int) = ((↑i : Int) % ((1 : Int) + (↑xx2 : Int)))))) rfl (fun _ => by kernel_rfl) ?_)
      refine Xg.ops_flag (j := 68) (c := (!decide ((↑i : Int) % (↑((1 : Nat) + xx2) : Int) = (↑i : Int) % ((1 : Int) + (↑xx2 : Int))))) (by kernel_rfl) (fun xh5 => absurd xh5 (by rw [decide_eq_true (p := ((↑i : Int) % (↑((1 : Nat) + xx2) : Int) = (↑i : Int) % ((1 : Int) + (↑xx2 : Int)))) (by omega)]; decide)) (fun _ => ?_)
      refine Xg.ops_op (by kernel_rfl) (Xg.opx_pure ((Value.bool false)) rfl (fun _ => by kernel_rfl) ?_)
      refine Xg.ops_op (by kernel_rfl) (Xg.opx_pure ((Value.bool false)) rfl (fun _ => by kernel_rfl) ?_)
      refine Xg.ops_op (by kernel_rfl) (Xg.opx_pure ((iv ((↑i : Int) % (↑((1 : Nat) + xx2) : Int)))) rfl (fun _ => by kernel_rfl) ?_)
      refine Xg.ops_op (by kernel_rfl) (Xg.opx_pure ((iv ((↑i : Int) % (↑((1 : Nat) + xx2) : Int)))) rfl (fun _ => by kernel_rfl) ?_)
      refine Xg.ops_op (by kernel_rfl) (Xg.opx_pure (.bool (!decide ((((↑i : Int) % (↑((1 : Nat) + xx2) : Int)) : Int) = ((↑i : Int) % (↑((1 : Nat) + xx2) : Int))))) rfl (fun _ => by kernel_rfl) ?_)
      refine Xg.ops_flag (j := 73) (c := (!decide ((↑i : Int) % (↑((1 : Nat) + xx2) : Int) = (↑i : Int) % (↑((1 : Nat) + xx2) : Int)))) (by kernel_rfl) (fun xh5 => absurd xh5 (by rw [decide_eq_true (p := ((↑i : Int) % (↑((1 : Nat) + xx2) : Int) = (↑i : Int) % (↑((1 : Nat) + xx2) : Int))) (by omega)]; decide)) (fun _ => ?_)
      refine Xg.ops_op (by kernel_rfl) (Xg.opx_pure ((Value.bool false)) rfl (fun _ => by kernel_rfl) ?_)
      refine Xg.ops_nil ?_
      refine Xg.at_false (t := false) (by kernel_rfl) rfl ?_
      refine Xg.at_skip ?_
      refine Xg.at_inBlock ?_
      refine Xg.at_region ?_
      refine Xg.ops_op (by kernel_rfl) (Xg.opx_pure ((iv (↑i : Int))) rfl (fun _ => by kernel_rfl) ?_)
      refine Xg.ops_op (by kernel_rfl) (Xg.opx_int .i64 (IntKind.wrap .i64 (((↑i : Int) + (1 : Int)))) rfl (fun _ => by kernel_rfl) (Xg.wrap_i64_in (by omega)) ?_)
      refine Xg.ops_op (by kernel_rfl) (Xg.opx_pure ((iv ((↑i : Int) + (1 : Int)))) rfl (fun _ => by kernel_rfl) ?_)
      refine Xg.ops_nil ?_
      refine Xg.at_inLoop ?_)
    (focus
      refine Xg.at_keep [0, 1] (by kernel_rfl) ?_
      refine Xs.same ?_ (fun J9 => ih (((i + 1)), J9) ?_ ?_) (by kernel_rfl))
    · rfl
    · dsimp only; omega
    · dsimp only; omega
  · clear ih
    (focus
      refine Xg.at_seq ?_
      refine Xg.at_seq ?_
      refine Xg.at_region ?_
      refine Xg.ops_op (by kernel_rfl) (Xg.opx_pure ((iv (↑i : Int))) rfl (fun _ => by kernel_rfl) ?_)
      refine Xg.ops_op (by kernel_rfl) (Xg.opx_pure ((Value.slice a n c)) rfl (fun _ => by kernel_rfl) ?_)
      refine Xg.ops_op (by kernel_rfl) (Xg.opx_pure ((iv (↑n : Int))) rfl (fun _ => by kernel_rfl) ?_)
      refine Xg.ops_op (by kernel_rfl) (Xg.opx_pure (.bool (decide ((((↑i : Int)) : Int) < ((↑n : Int))))) rfl (fun _ => by kernel_rfl) ?_)
      refine Xg.ops_nil ?_
      refine Xg.at_false (t := decide (((↑i : Int) < (↑n : Int)))) (by kernel_rfl) (decide_eq_false (by omega)) ?_
      refine Xg.at_exit rfl ?_
      refine Xg.at_seq ?_
      refine Xg.at_region ?_
      refine Xg.ops_op (by kernel_rfl) (Xg.opx_pure ((Value.bool true)) rfl (fun _ => by kernel_rfl) ?_)
      refine Xg.ops_nil ?_
      refine Xg.at_ret_ps (v := (Value.bool true)) [1] [A] Go.Proofs.Try.func5 (fun _ => by kernel_rfl) (by kernel_rfl) (by kernel_rfl) ?_
      exact ⟨by kernel_rfl, by kernel_rfl⟩)
end Go.Proofs.Ytijjficnhpokdaa
