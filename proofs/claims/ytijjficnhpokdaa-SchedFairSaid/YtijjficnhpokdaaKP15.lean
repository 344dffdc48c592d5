/- The law SchedFair: who is ready is not made to wait. -/
import Derived.Test.YtijjficnhpokdaaKP14
import Derived.Test.YtijjficnhpokdaaKS
namespace Go.Proofs.Ytijjficnhpokdaa
open Go.Sl Go.Xg
set_option linter.unusedVariables false
set_option linter.unusedSimpArgs false
set_option linter.unnecessarySimpa false
set_option maxHeartbeats 4000000
set_option maxRecDepth 100000

theorem fair_full (n me : Nat) (xs : List (Int × Int)) (hme : me < n) (st : Nat → Bool) : full n = (full n).take me ++ ((me : Int), true) :: (full n).drop (me + 1) ∧ Fair n me xs 0 ((full n).take me) ((full n).drop (me + 1)) (fun _ => 0) st 0 false := by
  have hg : (full n)[me]'(by rw [full_len]; exact hme) = ((me : Int), true) := by simp [full]
  have e : full n = (full n).take me ++ ((me : Int), true) :: (full n).drop (me + 1) := by rw [← hg, List.getElem_cons_drop, List.take_append_drop]
  have hnd : ((full n).map (·.1)).Nodup := by
    unfold full
    rw [List.map_map]
    refine List.Pairwise.map _ (fun x y hxy => ?_) List.nodup_range
    simp only [Function.comp]
    omega
  have hsub : ∀ x, x ∈ (full n).take me ++ (full n).drop (me + 1) → x ∈ full n := fun x hx => by
    rcases List.mem_append.1 hx with g | g
    · exact List.mem_of_mem_take g
    · exact List.mem_of_mem_drop g
  have hfull : ∀ x ∈ full n, 0 ≤ x.1 ∧ x.1 < n ∧ x.2 = true := fun x hx => by
    obtain ⟨i, hi, rfl⟩ := List.mem_map.1 hx
    have := List.mem_range.1 hi
    exact ⟨by dsimp only; omega, by dsimp only; omega, rfl⟩
  have hnd2 := hnd
  rw [e] at hnd2
  have hne : ∀ x ∈ (full n).take me ++ (full n).drop (me + 1), x.1 ≠ (me : Int) := fun x hx e1 => by
    have h2 := hnd2
    rw [List.map_append, List.map_cons, List.nodup_append, List.nodup_cons] at h2
    rcases List.mem_append.1 hx with g | g
    · exact h2.2.2 x.1 (List.mem_map.2 ⟨x, g, rfl⟩) _ (.head _) e1
    · exact h2.2.1.1 (List.mem_map.2 ⟨x, g, e1⟩)
  refine ⟨e, ⟨by rw [List.length_take, List.length_drop, full_len]; omega, hnd2, fun x hx => ⟨(hfull x (hsub x hx)).1, (hfull x (hsub x hx)).2.1, hne x hx⟩, fun id hi hn => ⟨true, ?_⟩, by rw [List.length_take, full_len]; omega, fun x _ => rfl, fun h => (by cases h), fun x hx => (hfull x (hsub x hx)).2.2, fun x hx _ => (hfull x (hsub x hx)).2.2⟩⟩
  have hm : ((id : Int), true) ∈ full n := List.mem_map.2 ⟨id, List.mem_range.2 hi, rfl⟩
  rw [e] at hm
  rcases List.mem_append.1 hm with g | g
  · exact List.mem_append_left _ g
  · rcases List.mem_cons.1 g with g | g
    · have : (id : Int) = me := congrArg Prod.fst g
      omega
    · exact List.mem_append_right _ g

theorem rdyF_take (n me : Nat) (xs : List (Int × Int)) (m : Nat) (j : Nat) : ∀ i, i ≤ m → rdyF n me (xs.take m) i j = rdyF n me xs i j
  | 0, _ => rfl
  | i + 1, h => by
    have e : (xs.take m).getD i default = xs.getD i default := by simp only [List.getD_eq_getElem?_getD, List.getElem?_take]; rw [if_pos (by omega)]
    unfold rdyF
    rw [e, rdyF_take n me xs m j i (by omega)]

theorem rdy_d (A : HP) (a : Option Addr) (m c : Nat) (xs : List (Int × Int)) (hm : xs.length = m) (hmx : m ≤ maxLen) (hR : Reads A 2 (.slice a m c) m (recs acC xs)) (hB : ∀ i, i < m → i64ok (xs.getD i default).1 ∧ i64ok (xs.getD i default).2)
    (j n me : Nat) (hn : 0 < n) (hn12 : n ≤ 12) (hj : j < 12) (hme : me < 12) : Does Try.prog 17 [.slice a m c, .int .i64 (j : Nat), .int .i64 (n : Nat), .int .i64 (me : Nat)] [A] (Ret (.bool (rdyF n me xs m j)) [A]) := by
  obtain ⟨v, hv⟩ : ∃ v, rdyF n me xs m j = v := ⟨_, rfl⟩
  rw [hv]
  unfold maxLen at hmx
  (focus
    refine Xg.spec_of Go.Proofs.Try.func17 rfl Go.Proofs.Try.ntmps17 fun g F => ?_)
  (focus
    refine Xg.at_seq ?_
    refine Xg.at_region ?_
    refine Xg.ops_op (by kernel_rfl) (Xg.opx_pure ((Value.bool false)) rfl (fun _ => by kernel_rfl) ?_)
    refine Xg.ops_nil ?_
    refine Xg.at_seq ?_
    refine Xg.at_region ?_
    refine Xg.ops_op (by kernel_rfl) (Xg.opx_pure ((Value.bool true)) rfl (fun _ => by kernel_rfl) ?_)
    refine Xg.ops_nil ?_
    refine Xg.at_seq ?_
    refine Xg.at_seq ?_
    refine Xg.at_region ?_
    refine Xg.ops_op (by kernel_rfl) (Xg.opx_pure ((iv 0)) rfl (fun _ => by kernel_rfl) ?_)
    refine Xg.ops_nil ?_
    refine Xg.at_block ?_)
  (focus
    refine Xg.at_rounds_inv (α := (Nat × Bool) × (Nat → Value)) (fun x => ((fun x => x.1 ≤ m ∧ x.2 = rdyF n me xs x.1 j) : (Nat × Bool) → Prop) x.1) (fun x => ((fun x => m - x.1) : (Nat × Bool) → Nat) x.1) (fun x => Xg.headT [Value.slice a m c, iv (↑j : Int), iv (↑n : Int), iv (↑me : Int), tu, tu, tu, tu, Value.bool false, Value.bool true, iv 0, tu, tu, tu, tu, tu, tu, tu, tu, tu, tu, tu, tu, tu, tu, tu, tu, tu, tu, tu, tu, tu, tu, tu, tu, tu, tu, tu, tu, tu, tu, tu, tu, tu, tu, tu, tu] [11, 12, 13, 14, 15, 16, 17, 18, 19, 20, 21, 22, 23, 24, 25, 26, 27, 28, 29, 30, 31, 32, 33, 34, 35, 36, 37, 38, 39, 40, 41, 42, 43, 44, 45] (((fun x => [(10, .int .i64 (x.1 : Nat)), (9, .bool x.2)]) : (Nat × Bool) → List (Nat × Go.Value)) x.1) x.2) (fun x => ((fun x => [A]) : (Nat × Bool) → List Go.Sl.HP) x.1) (((0, true)), fun j9 => ([Value.slice a m c, iv (↑j : Int), iv (↑n : Int), iv (↑me : Int), tu, tu, tu, tu, Value.bool false, Value.bool true, iv 0, tu, tu, tu, tu, tu, tu, tu, tu, tu, tu, tu, tu, tu, tu, tu, tu, tu, tu, tu, tu, tu, tu, tu, tu, tu, tu, tu, tu, tu, tu, tu, tu, tu, tu, tu, tu] : List Value).getD j9 undef) (by kernel_rfl) (by kernel_rfl) ?_ ?_)
  · exact ⟨Nat.zero_le _, rfl⟩
  rintro ⟨⟨i, yes⟩, J⟩ ⟨hi, hy⟩ ih
  dsimp only at hi hy
  (focus
    refine Xg.At.same (T' := [Value.slice a m c, iv (↑j : Int), iv (↑n : Int), iv (↑me : Int), tu, tu, tu, tu, Value.bool false, Value.bool yes, iv (↑i : Int), J 11, J 12, J 13, J 14, J 15, J 16, J 17, J 18, J 19, J 20, J 21, J 22, J 23, J 24, J 25, J 26, J 27, J 28, J 29, J 30, J 31, J 32, J 33, J 34, J 35, J 36, J 37, J 38, J 39, J 40, J 41, J 42, J 43, J 44, J 45, tu]) (L' := [A]) (by kernel_rfl) rfl ?_)
  by_cases hlt : i < m
  · obtain ⟨hBa, hBb⟩ := hB i hlt
    have hnx : rdyF n me xs (i + 1) j = if 6 ≤ pickN (xs.getD i default).1 8 ∧ pickN (xs.getD i default).2 n = j ∧ pickN (xs.getD i default).2 n ≠ me then decide (pickN (xs.getD i default).1 8 = 6) else rdyF n me xs i j := rfl
    (focus
      refine Xg.at_seq ?_
      refine Xg.at_seq ?_
      refine Xg.at_region ?_
      refine Xg.ops_op (by kernel_rfl) (Xg.opx_pure ((iv (↑i : Int))) rfl (fun _ => by kernel_rfl) ?_)
      refine Xg.ops_op (by kernel_rfl) (Xg.opx_pure ((Value.slice a m c)) rfl (fun _ => by kernel_rfl) ?_)
      refine Xg.ops_op (by kernel_rfl) (Xg.opx_pure ((iv (↑m : Int))) rfl (fun _ => by kernel_rfl) ?_)
      refine Xg.ops_op (by kernel_rfl) (Xg.opx_pure (.bool (decide ((((↑i : Int)) : Int) < ((↑m : Int))))) rfl (fun _ => by kernel_rfl) ?_)
      refine Xg.ops_nil ?_
      refine Xg.at_true (t := decide (((↑i : Int) < (↑m : Int)))) (by kernel_rfl) (decide_eq_true (by omega)) ?_
      refine Xg.at_skip ?_
      refine Xg.at_seq ?_
      refine Xg.at_block ?_
      refine Xg.at_seq ?_
      refine Xg.at_region ?_
      refine Xg.ops_op (by kernel_rfl) (Xg.opx_pure ((Value.slice a m c)) rfl (fun _ => by kernel_rfl) ?_)
      refine Xg.ops_op (by kernel_rfl) (Xg.opx_pure ((iv (↑i : Int))) rfl (fun _ => by kernel_rfl) ?_)
      refine Xg.ops_op (by kernel_rfl) (Xg.opx_rd 0 (.pointer (some (Addr.mk (Xg.blk a) (offA a + i * (2 : Nat)) none))) rfl hR (by kernel_rfl) (Xg.run_ix_rd (elem := 33) (kd := .i64) (e := ((↑i : Int))) 2 i (offA a + i * (2 : Nat)) (by kernel_rfl) (by kernel_rfl) (by kernel_rfl) (by kernel_rfl) rfl (by omega) (by rw [Xg.recs_len (wd := 2) (fun _ => rfl)]; omega) (by omega)) ?_)
      refine Xg.ops_op (by kernel_rfl) (Xg.opx_pure ((Value.pointer (some (Addr.mk (blk a) (offA a + i * (2 : Nat)) none)))) rfl (fun _ => by kernel_rfl) ?_)
      refine Xg.ops_op (by kernel_rfl) (Xg.opx_rd 0 (iv (xs.getD i default).fst) rfl hR (by kernel_rfl) (Xg.run_load_rd (off0 := (offA a + i * (2 : Nat))) (i * (2 : Nat)) (by kernel_rfl) (by omega) (Xg.get_recs' (wd := 2) (fun _ => rfl) default i 0 (by omega) (by decide) (by omega) (by kernel_rfl)) (by kernel_rfl)) ?_)
      refine Xg.ops_op (by kernel_rfl) (Xg.opx_callE' [] (fun xx1 => [A]) (fun _ => by kernel_rfl) (@Go.Proofs.Ytijjficnhpokdaa.pick_d (((xs.getD i default).fst)) ((nat_lit 8)) (by omega) (by first | rfl | decide | (constructor <;> omega) | (simp; done) | (simp; omega))) (by kernel_rfl) (by kernel_rfl) (by kernel_rfl) fun xx1 xh1 => ?_)
      try dsimp only at xh1
      obtain ⟨xh1_0, xh1_1⟩ := xh1
      refine Xg.ops_op (by kernel_rfl) (Xg.opx_pure ((iv (↑xx1 : Int))) rfl (fun _ => by kernel_rfl) ?_)
      refine Xg.ops_nil ?_
      refine Xg.at_seq ?_
      refine Xg.at_region ?_
      refine Xg.ops_op (by kernel_rfl) (Xg.opx_pure ((Value.slice a m c)) rfl (fun _ => by kernel_rfl) ?_)
      refine Xg.ops_op (by kernel_rfl) (Xg.opx_pure ((iv (↑i : Int))) rfl (fun _ => by kernel_rfl) ?_)
      refine Xg.ops_op (by kernel_rfl) (Xg.opx_rd 0 (.pointer (some (Addr.mk (Xg.blk a) (offA a + i * (2 : Nat)) none))) rfl hR (by kernel_rfl) (Xg.run_ix_rd (elem := 33) (kd := .i64) (e := ((↑i : Int))) 2 i (offA a + i * (2 : Nat)) (by kernel_rfl) (by kernel_rfl) (by kernel_rfl) (by kernel_rfl) rfl (by omega) (by rw [Xg.recs_len (wd := 2) (fun _ => rfl)]; omega) (by omega)) ?_)
      refine Xg.ops_op (by kernel_rfl) (Xg.opx_pure ((Value.pointer (some (Addr.mk (blk a) (offA a + i * (2 : Nat) + (1 : Nat)) none)))) rfl (fun _ => by kernel_rfl) ?_)
      refine Xg.ops_op (by kernel_rfl) (Xg.opx_rd 0 (iv (xs.getD i default).snd) rfl hR (by kernel_rfl) (Xg.run_load_rd (off0 := (offA a + i * (2 : Nat) + (1 : Nat))) (i * (2 : Nat) + (1 : Nat)) (by kernel_rfl) (by omega) (Xg.get_recs' (wd := 2) (fun _ => rfl) default i 1 (by omega) (by decide) (by omega) (by kernel_rfl)) (by kernel_rfl)) ?_)
      refine Xg.ops_op (by kernel_rfl) (Xg.opx_pure ((iv (↑n : Int))) rfl (fun _ => by kernel_rfl) ?_)
      refine Xg.ops_op (by kernel_rfl) (Xg.opx_callE' [] (fun xx2 => [A]) (fun _ => by kernel_rfl) (@Go.Proofs.Ytijjficnhpokdaa.pick_d (((xs.getD i default).snd)) (n) (by omega) (by omega)) (by kernel_rfl) (by kernel_rfl) (by kernel_rfl) fun xx2 xh2 => ?_)
      try dsimp only at xh2
      obtain ⟨xh2_0, xh2_1⟩ := xh2
      refine Xg.ops_op (by kernel_rfl) (Xg.opx_pure ((iv (↑xx2 : Int))) rfl (fun _ => by kernel_rfl) ?_)
      refine Xg.ops_nil ?_
      refine Xg.at_seq ?_
      refine Xg.at_region ?_
      refine Xg.ops_op (by kernel_rfl) (Xg.opx_pure ((iv (↑xx1 : Int))) rfl (fun _ => by kernel_rfl) ?_)
      refine Xg.ops_op (by kernel_rfl) (Xg.opx_pure (.bool (decide ((((↑xx1 : Int)) : Int) ≥ ((6 : Int))))) rfl (fun _ => by kernel_rfl) ?_)
      refine Xg.ops_op (by kernel_rfl) (Xg.opx_pure ((Value.bool (decide ((↑xx1 : Int) ≥ (6 : Int))))) rfl (fun _ => by kernel_rfl) ?_)
      refine Xg.ops_flag (j := 34) (c := (decide ((↑xx1 : Int) ≥ (6 : Int)))) (by kernel_rfl) (fun xh3 => ?_) (fun xh3 => ?_)
      replace xh3 : ((↑xx1 : Int) ≥ (6 : Int)) := of_decide_eq_true xh3
      rotate_left
      replace xh3 : ¬ (((↑xx1 : Int) ≥ (6 : Int))) := of_decide_eq_false xh3
      rotate_right
      refine Xg.ops_op (by kernel_rfl) (Xg.opx_pure ((iv (↑xx2 : Int))) rfl (fun _ => by kernel_rfl) ?_)
      refine Xg.ops_op (by kernel_rfl) (Xg.opx_pure ((iv (↑j : Int))) rfl (fun _ => by kernel_rfl) ?_)
      refine Xg.ops_op (by kernel_rfl) (Xg.opx_pure (.bool (decide ((((↑xx2 : Int)) : Int) = ((↑j : Int))))) rfl (fun _ => by kernel_rfl) ?_)
      refine Xg.ops_flag (j := 37) (c := (decide ((↑xx2 : Int) = (↑j : Int)))) (by kernel_rfl) (fun xh4 => ?_) (fun xh4 => ?_)
      replace xh4 : ((↑xx2 : Int) = (↑j : Int)) := of_decide_eq_true xh4
      rotate_left
      replace xh4 : ¬ (((↑xx2 : Int) = (↑j : Int))) := of_decide_eq_false xh4
      rotate_right
      refine Xg.ops_op (by kernel_rfl) (Xg.opx_pure ((Value.bool true)) rfl (fun _ => by kernel_rfl) ?_)
      refine Xg.ops_op (by kernel_rfl) (Xg.opx_pure ((Value.bool true)) rfl (fun _ => by kernel_rfl) ?_)
      refine Xg.ops_op (by kernel_rfl) (Xg.opx_pure ((iv (↑xx2 : Int))) rfl (fun _ => by kernel_rfl) ?_)
      refine Xg.ops_op (by kernel_rfl) (Xg.opx_pure ((iv (↑me : Int))) rfl (fun _ => by kernel_rfl) ?_)
      refine Xg.ops_op (by kernel_rfl) (Xg.opx_pure (.bool (!decide ((((↑xx2 : Int)) : Int) = ((↑me : Int))))) rfl (fun _ => by kernel_rfl) ?_)
      refine Xg.ops_flag (j := 42) (c := (!decide ((↑xx2 : Int) = (↑me : Int)))) (by kernel_rfl) (fun xh5 => ?_) (fun xh5 => ?_)
      replace xh5 : ¬ (((↑xx2 : Int) = (↑me : Int))) := by simpa using xh5
      rotate_left
      replace xh5 : ((↑xx2 : Int) = (↑me : Int)) := by simpa using xh5
      rotate_right
      refine Xg.ops_op (by kernel_rfl) (Xg.opx_pure ((Value.bool true)) rfl (fun _ => by kernel_rfl) ?_)
      refine Xg.ops_nil ?_
      refine Xg.at_true (t := true) (by kernel_rfl) rfl ?_
      refine Xg.at_region ?_
      refine Xg.ops_op (by kernel_rfl) (Xg.opx_pure ((iv (↑xx1 : Int))) rfl (fun _ => by kernel_rfl) ?_)
      refine Xg.ops_op (by kernel_rfl) (Xg.opx_pure (.bool (decide ((((↑xx1 : Int)) : Int) = ((6 : Int))))) rfl (fun _ => by kernel_rfl) ?_)
      refine Xg.ops_op (by kernel_rfl) (Xg.opx_pure ((Value.bool (decide ((↑xx1 : Int) = (6 : Int))))) rfl (fun _ => by kernel_rfl) ?_)
      refine Xg.ops_nil ?_
      refine Xg.at_inBlock ?_
      refine Xg.at_region ?_
      refine Xg.ops_op (by kernel_rfl) (Xg.opx_pure ((iv (↑i : Int))) rfl (fun _ => by kernel_rfl) ?_)
      refine Xg.ops_op (by kernel_rfl) (Xg.opx_int .i64 (IntKind.wrap .i64 (((↑i : Int) + (1 : Int)))) rfl (fun _ => by kernel_rfl) (Xg.wrap_i64_in (by omega)) ?_)
      refine Xg.ops_op (by kernel_rfl) (Xg.opx_pure ((iv ((↑i : Int) + (1 : Int)))) rfl (fun _ => by kernel_rfl) ?_)
      refine Xg.ops_nil ?_
      refine Xg.at_inLoop ?_
      rotate_left
      refine Xg.ops_op (by kernel_rfl) (Xg.opx_pure ((Value.bool false)) rfl (fun _ => by kernel_rfl) ?_)
      refine Xg.ops_nil ?_
      refine Xg.at_false (t := false) (by kernel_rfl) rfl ?_
      refine Xg.at_skip ?_
      refine Xg.at_inBlock ?_
      refine Xg.at_region ?_
      refine Xg.ops_op (by kernel_rfl) (Xg.opx_pure ((iv (↑i : Int))) rfl (fun _ => by kernel_rfl) ?_)
      refine Xg.ops_op (by kernel_rfl) (Xg.opx_int .i64 (IntKind.wrap .i64 (((↑i : Int) + (1 : Int)))) rfl (fun _ => by kernel_rfl) (Xg.wrap_i64_in (by omega)) ?_)
      refine Xg.ops_op (by kernel_rfl) (Xg.opx_pure ((iv ((↑i : Int) + (1 : Int)))) rfl (fun _ => by kernel_rfl) ?_)
      refine Xg.ops_nil ?_
      refine Xg.at_inLoop ?_
      rotate_left
      refine Xg.ops_op (by kernel_rfl) (Xg.opx_pure ((Value.bool false)) rfl (fun _ => by kernel_rfl) ?_)
      refine Xg.ops_op (by kernel_rfl) (Xg.opx_pure ((Value.bool false)) rfl (fun _ => by kernel_rfl) ?_)
      refine Xg.ops_skip (by kernel_rfl) ?_
      refine Xg.ops_skip (by kernel_rfl) ?_
      refine Xg.ops_skip (by kernel_rfl) ?_
      refine Xg.ops_op (by kernel_rfl) (Xg.opx_pure ((Value.bool false)) rfl (fun _ => by kernel_rfl) ?_)
      refine Xg.ops_nil ?_
      refine Xg.at_false (t := false) (by kernel_rfl) rfl ?_
      refine Xg.at_skip ?_
      refine Xg.at_inBlock ?_
      refine Xg.at_region ?_
      refine Xg.ops_op (by kernel_rfl) (Xg.opx_pure ((iv (↑i : Int))) rfl (fun _ => by kernel_rfl) ?_)
      refine Xg.ops_op (by kernel_rfl) (Xg.opx_int .i64 (IntKind.wrap .i64 (((↑i : Int) + (1 : Int)))) rfl (fun _ => by kernel_rfl) (Xg.wrap_i64_in (by omega)) ?_)
      refine Xg.ops_op (by kernel_rfl) (Xg.opx_pure ((iv ((↑i : Int) + (1 : Int)))) rfl (fun _ => by kernel_rfl) ?_)
      refine Xg.ops_nil ?_
      refine Xg.at_inLoop ?_
      rotate_left
      refine Xg.ops_skip (by kernel_rfl) ?_
      refine Xg.ops_skip (by kernel_rfl) ?_
      refine Xg.ops_skip (by kernel_rfl) ?_
      refine Xg.ops_op (by kernel_rfl) (Xg.opx_pure ((Value.bool false)) rfl (fun _ => by kernel_rfl) ?_)
      refine Xg.ops_op (by kernel_rfl) (Xg.opx_pure ((Value.bool false)) rfl (fun _ => by kernel_rfl) ?_)
      refine Xg.ops_skip (by kernel_rfl) ?_
      refine Xg.ops_skip (by kernel_rfl) ?_
      refine Xg.ops_skip (by kernel_rfl) ?_
      refine Xg.ops_op (by kernel_rfl) (Xg.opx_pure ((Value.bool false)) rfl (fun _ => by kernel_rfl) ?_)
      refine Xg.ops_nil ?_
      refine Xg.at_false (t := false) (by kernel_rfl) rfl ?_
      refine Xg.at_skip ?_
      refine Xg.at_inBlock ?_
      refine Xg.at_region ?_
      refine Xg.ops_op (by kernel_rfl) (Xg.opx_pure ((iv (↑i : Int))) rfl (fun _ => by kernel_rfl) ?_)
      refine Xg.ops_op (by kernel_rfl) (Xg.opx_int .i64 (IntKind.wrap .i64 (((↑i : Int) + (1 : Int)))) rfl (fun _ => by kernel_rfl) (Xg.wrap_i64_in (by omega)) ?_)
      refine Xg.ops_op (by kernel_rfl) (Xg.opx_pure ((iv ((↑i : Int) + (1 : Int)))) rfl (fun _ => by kernel_rfl) ?_)
      refine Xg.ops_nil ?_
      refine Xg.at_inLoop ?_)
    all_goals rw [← xh1_0, ← xh2_0] at hnx
    · (focus
        refine Xg.at_keep [0] (by kernel_rfl) ?_
        refine Xs.same ?_ (fun J9 => ih (((i + 1, yes)), J9) ?_ ?_) (by kernel_rfl))
      · rfl
      · refine ⟨by dsimp only; omega, ?_⟩
        dsimp only
        rw [hnx, if_neg (by simp only [decide_eq_false_iff_not, decide_eq_true_eq] at *; omega)]; exact hy
      · dsimp only; omega
    · (focus
        refine Xg.at_keep [0] (by kernel_rfl) ?_
        refine Xs.same ?_ (fun J9 => ih (((i + 1, decide ((xx1 : Int) = (6 : Int)))), J9) ?_ ?_) (by kernel_rfl))
      · rfl
      · refine ⟨by dsimp only; omega, ?_⟩
        dsimp only
        rw [hnx, if_pos (by simp only [decide_eq_false_iff_not, decide_eq_true_eq] at *; omega)]
        exact decide_eq_decide.2 (by omega)
      · dsimp only; omega
    · (focus
        refine Xg.at_keep [0] (by kernel_rfl) ?_
        refine Xs.same ?_ (fun J9 => ih (((i + 1, yes)), J9) ?_ ?_) (by kernel_rfl))
      · rfl
      · refine ⟨by dsimp only; omega, ?_⟩
        dsimp only
        rw [hnx, if_neg (by simp only [decide_eq_false_iff_not, decide_eq_true_eq] at *; omega)]; exact hy
      · dsimp only; omega
    · (focus
        refine Xg.at_keep [0] (by kernel_rfl) ?_
        refine Xs.same ?_ (fun J9 => ih (((i + 1, yes)), J9) ?_ ?_) (by kernel_rfl))
      · rfl
      · refine ⟨by dsimp only; omega, ?_⟩
        dsimp only
        rw [hnx, if_neg (by simp only [decide_eq_false_iff_not, decide_eq_true_eq] at *; omega)]; exact hy
      · dsimp only; omega
  · obtain rfl : i = m := by omega
    rw [hv] at hy
    subst hy
    clear ih
    (focus
      refine Xg.at_seq ?_
      refine Xg.at_seq ?_
      refine Xg.at_region ?_
      refine Xg.ops_op (by kernel_rfl) (Xg.opx_pure ((iv (↑i : Int))) rfl (fun _ => by kernel_rfl) ?_)
      refine Xg.ops_op (by kernel_rfl) (Xg.opx_pure ((Value.slice a i c)) rfl (fun _ => by kernel_rfl) ?_)
      refine Xg.ops_op (by kernel_rfl) (Xg.opx_pure ((iv (↑i : Int))) rfl (fun _ => by kernel_rfl) ?_)
      refine Xg.ops_op (by kernel_rfl) (Xg.opx_pure (.bool (decide ((((↑i : Int)) : Int) < ((↑i : Int))))) rfl (fun _ => by kernel_rfl) ?_)
      refine Xg.ops_nil ?_
      refine Xg.at_false (t := decide (((↑i : Int) < (↑i : Int)))) (by kernel_rfl) (decide_eq_false (by omega)) ?_
      refine Xg.at_exit rfl ?_
      refine Xg.at_seq ?_
      refine Xg.at_region ?_
      refine Xg.ops_op (by kernel_rfl) (Xg.opx_pure ((Value.bool yes)) rfl (fun _ => by kernel_rfl) ?_)
      refine Xg.ops_op (by kernel_rfl) (Xg.opx_pure ((Value.bool yes)) rfl (fun _ => by kernel_rfl) ?_)
      refine Xg.ops_nil ?_
      refine Xg.at_ret_ps (v := (Value.bool yes)) [0] [A] Go.Proofs.Try.func17 (fun _ => by kernel_rfl) (by kernel_rfl) (by kernel_rfl) ?_
      exact ⟨by kernel_rfl, by kernel_rfl⟩)
end Go.Proofs.Ytijjficnhpokdaa
