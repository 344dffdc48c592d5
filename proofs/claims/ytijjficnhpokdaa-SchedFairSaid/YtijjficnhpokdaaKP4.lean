/- The sched package: slices.Delete of one of the round. -/
import Derived.Test.YtijjficnhpokdaaKP3
import Derived.Test.YtijjficnhpokdaaKS
import Derived.Test.YtijjficnhpokdaaG17
namespace Go.Proofs.Ytijjficnhpokdaa
open Go.Sl Go.Xg
set_option linter.unusedVariables false
set_option linter.unusedSimpArgs false
set_option maxHeartbeats 4000000
set_option maxRecDepth 100000

theorem mc_drop (r : List (Int × Bool)) (i : Nat) : (recs mc r).drop (i * 2) = recs mc (r.drop i) := by
  induction r generalizing i with
  | nil => simp [recs]
  | cons x r ih =>
    cases i with
    | zero => simp
    | succ i =>
      have := ih i
      rw [List.drop_succ_cons, ← this, show (i + 1) * 2 = i * 2 + 1 + 1 from by omega]
      simp [recs, mc]
theorem mc_take (r : List (Int × Bool)) (i : Nat) : (recs mc r).take (i * 2) = recs mc (r.take i) := by
  induction r generalizing i with
  | nil => simp [recs]
  | cons x r ih =>
    cases i with
    | zero => simp [recs]
    | succ i =>
      have := ih i
      rw [List.take_succ_cons, show (i + 1) * 2 = i * 2 + 1 + 1 from by omega]
      simp only [recs, List.flatMap_cons] at *
      rw [← this]
      simp [mc]
theorem mc_app (r s : List (Int × Bool)) : recs mc (r ++ s) = recs mc r ++ recs mc s := by simp [recs]
theorem mc_len (r : List (Int × Bool)) : (recs mc r).length = r.length * 2 := recs_len (wd := 2) (fun _ => rfl) r
theorem mc_one (r : List (Int × Bool)) : ∀ u ∈ recs mc r, u.oneCell' = true := fun u hu => by
  obtain ⟨x, _, hx⟩ := List.mem_flatMap.1 hu
  simp only [mc, List.mem_cons, List.not_mem_nil, or_false] at hx
  rcases hx with rfl | rfl <;> rfl

theorem delete0_d (a : Option Addr) (c : Nat) (r : List (Int × Bool)) (i : Nat) (hi : i < r.length) : Does Try.prog 29 [.slice a r.length c, .int .i64 (i : Nat), .int .i64 ((i : Int) + 1)] [RP a c r]
    (Ret (.slice a (r.length - 1) c) [ownS 65 2 (.slice a (r.length - 1) c) (r.length - 1) (recs mc (r.eraseIdx i))]) := by
  (focus
    refine Xg.spec_of Go.Proofs.Try.func29 rfl Go.Proofs.Try.ntmps29 fun g F => ?_)
  refine Xg.at_own 0 rfl fun h1 h2 _ _ => ?_
  have hm : r.length ≤ maxLen := Nat.le_trans h1 h2
  unfold maxLen at hm h2
  (focus
    refine Xg.at_seq ?_
    refine Xg.at_region ?_
    refine Xg.ops_op (by kernel_rfl) (Xg.opx_pure ((Value.slice none (0 : Nat) (0 : Nat))) rfl (fun _ => by kernel_rfl) ?_)
    refine Xg.ops_nil ?_
    refine Xg.at_seq ?_
    refine Xg.at_region ?_
    refine Xg.ops_op (by kernel_rfl) (Xg.opx_pure ((Value.slice a r.length c)) rfl (fun _ => by kernel_rfl) ?_)
    refine Xg.ops_op (by kernel_rfl) (Xg.opx_pure ((iv (↑i : Int))) rfl (fun _ => by kernel_rfl) ?_)
    refine Xg.ops_op (by kernel_rfl) (Xg.opx_pure ((iv ((↑i : Int) + (1 : Int)))) rfl (fun _ => by kernel_rfl) ?_)
    refine Xg.ops_op (by kernel_rfl) (Xg.opx_pure ((Value.slice a r.length c)) rfl (fun _ => by kernel_rfl) ?_)
    refine Xg.ops_op (by kernel_rfl) (Xg.opx_pure ((iv (↑r.length : Int))) rfl (fun _ => by kernel_rfl) ?_))
  refine Xg.ops_op (by kernel_rfl) (Xg.opx_run (.slice (Xg.subA a r.length i 2) (i + 1 - i) (r.length - i)) rfl (Xg.run_sl3 (k1 := .i64) (k2 := .i64) (k3 := .i64) (e1 := (i : Int)) (e2 := (i : Int) + 1) (e3 := (r.length : Int)) (elem := 65) (len := r.length) 2 i (i + 1) r.length (by kernel_rfl) (by kernel_rfl) (by kernel_rfl) (by kernel_rfl) (by kernel_rfl) (by kernel_rfl) rfl (by omega) rfl (by omega) (by omega) h1) ?_)
  (focus
    refine Xg.ops_nil ?_
    refine Xg.at_seq ?_
    refine Xg.at_seq ?_
    refine Xg.at_region ?_
    refine Xg.ops_op (by kernel_rfl) (Xg.opx_pure ((iv (↑i : Int))) rfl (fun _ => by kernel_rfl) ?_)
    refine Xg.ops_op (by kernel_rfl) (Xg.opx_pure ((iv ((↑i : Int) + (1 : Int)))) rfl (fun _ => by kernel_rfl) ?_)
    refine Xg.ops_op (by kernel_rfl) (Xg.opx_pure (.bool (decide ((((↑i : Int)) : Int) = ((↑i : Int) + (1 : Int))))) rfl (fun _ => by kernel_rfl) ?_)
    refine Xg.ops_nil ?_
    refine Xg.at_false (t := decide (((↑i : Int) = (↑i : Int) + (1 : Int)))) (by kernel_rfl) (decide_eq_false (by omega)) ?_
    refine Xg.at_skip ?_
    refine Xg.at_seq ?_
    refine Xg.at_region ?_
    refine Xg.ops_op (by kernel_rfl) (Xg.opx_pure ((Value.slice a r.length c)) rfl (fun _ => by kernel_rfl) ?_)
    refine Xg.ops_op (by kernel_rfl) (Xg.opx_pure ((iv (↑r.length : Int))) rfl (fun _ => by kernel_rfl) ?_)
    refine Xg.ops_op (by kernel_rfl) (Xg.opx_pure ((iv (↑r.length : Int))) rfl (fun _ => by kernel_rfl) ?_)
    refine Xg.ops_nil ?_
    refine Xg.at_seq ?_
    refine Xg.at_draw [6] [] (by kernel_rfl) ?_
    refine Xg.any_pure ((Value.slice a r.length c)) 0 (by kernel_rfl) rfl (by kernel_rfl) (by kernel_rfl) (by kernel_rfl) (by kernel_rfl) rfl (fun _ => by kernel_rfl) ?_
    refine Xg.any_pure ((iv (↑i : Int))) 1 (by kernel_rfl) rfl (by kernel_rfl) (by kernel_rfl) (by kernel_rfl) (by kernel_rfl) rfl (fun _ => by kernel_rfl) ?_
    refine Xg.any_pure (.slice a i c) 2 (by kernel_rfl) rfl (by kernel_rfl) (by kernel_rfl) (by kernel_rfl) (by kernel_rfl) rfl (Xg.run_sl_hi (elem := 65) (a := a) (c := c) (len := r.length) (k2 := .i64) (e2 := ((↑i : Int))) 2 i (by kernel_rfl) (by kernel_rfl) (by kernel_rfl) (by kernel_rfl) rfl (by omega)) ?_
    refine Xg.any_pure ((Value.slice a r.length c)) 3 (by kernel_rfl) rfl (by kernel_rfl) (by kernel_rfl) (by kernel_rfl) (by kernel_rfl) rfl (fun _ => by kernel_rfl) ?_
    refine Xg.any_pure ((iv ((↑i : Int) + (1 : Int)))) 4 (by kernel_rfl) rfl (by kernel_rfl) (by kernel_rfl) (by kernel_rfl) (by kernel_rfl) rfl (fun _ => by kernel_rfl) ?_
    refine Xg.any_pure (.slice (Xg.subA a c (((↑i : Int) + (1 : Int)).toNat) 2) (r.length - (((↑i : Int) + (1 : Int)).toNat)) (c - (((↑i : Int) + (1 : Int)).toNat))) 5 (by kernel_rfl) rfl (by kernel_rfl) (by kernel_rfl) (by kernel_rfl) (by kernel_rfl) rfl (Xg.run_sl_lo (elem := 65) (a := a) (c := c) (len := r.length) (k1 := .i64) (e1 := ((↑i : Int) + (1 : Int))) 2 (((↑i : Int) + (1 : Int)).toNat) (by kernel_rfl) (by kernel_rfl) (by kernel_rfl) (by kernel_rfl) (by omega) (by omega)) ?_)
  refine Xg.any_each [6] (by kernel_rfl) rfl ⟨?_, trivial⟩
  refine Xg.comes_act rfl (by kernel_rfl) (by kernel_rfl) (Xg.opx_append_in (elem := 65) (n := r.length) (c := c) (l := i) (m := r.length - ((i : Int) + 1).toNat) (news := (((recs mc r).drop (((i : Int) + 1).toNat * 2)).take ((r.length - ((i : Int) + 1).toNat) * 2))) (r.length - 1) 0 2 (by omega) rfl (by kernel_rfl) (by kernel_rfl) (by kernel_rfl) (by kernel_rfl) (fun w hS => reads_rd (reads_part ((i : Int) + 1).toNat r.length (by omega) (Nat.le_refl _)) 0 rfl hS) (fun u hu => mc_one r u (List.mem_of_mem_drop (List.mem_of_mem_take hu))) (by omega) (by omega) ?_)
  refine Xg.acts Xg.owes_nil ?_
  (focus
    refine Xg.any_pure ((Value.slice a (r.length - (1 : Nat)) c)) 7 (by kernel_rfl) rfl (by kernel_rfl) (by kernel_rfl) (by kernel_rfl) (by kernel_rfl) rfl (fun _ => by kernel_rfl) ?_
    refine Xg.any_nil (by kernel_rfl) ?_
    refine Xg.at_seq ?_
    refine Xg.at_region ?_
    refine Xg.ops_op (by kernel_rfl) (Xg.opx_pure ((Value.slice a (r.length - (1 : Nat)) c)) rfl (fun _ => by kernel_rfl) ?_)
    refine Xg.ops_op (by kernel_rfl) (Xg.opx_pure ((Value.slice a (r.length - (1 : Nat)) c)) rfl (fun _ => by kernel_rfl) ?_)
    refine Xg.ops_op (by kernel_rfl) (Xg.opx_pure ((iv (↑(r.length - (1 : Nat)) : Int))) rfl (fun _ => by kernel_rfl) ?_)
    refine Xg.ops_op (by kernel_rfl) (Xg.opx_pure ((iv (↑r.length : Int))) rfl (fun _ => by kernel_rfl) ?_)
    refine Xg.ops_op (by kernel_rfl) (Xg.opx_run (.slice (Xg.subA a c (r.length - (1 : Nat)) 2) (r.length - (r.length - (1 : Nat))) (c - (r.length - (1 : Nat)))) rfl (Xg.run_sl (elem := 65) (a := a) (c := c) (len := (r.length - (1 : Nat))) (k1 := .i64) (k2 := .i64) (e1 := ((↑(r.length - (1 : Nat)) : Int))) (e2 := ((↑r.length : Int))) 2 (r.length - (1 : Nat)) r.length (by kernel_rfl) (by kernel_rfl) (by kernel_rfl) (by kernel_rfl) (by kernel_rfl) rfl rfl (by omega) (by omega)) ?_))
  refine Xg.ops_op (by kernel_rfl) (Xg.opx_clear_in (elem := 65) (n := r.length) (c := c) (l := r.length - 1) (m := r.length - (r.length - 1)) (c' := c - (r.length - 1)) 0 2 rfl (by kernel_rfl) (by kernel_rfl) (by kernel_rfl) (by kernel_rfl) (by omega) (by omega) fun zs hz => ?_)
  rw [mc_take, mc_drop, mc_drop, mc_take, ← mc_app, ← mc_app, mc_take, show ((i : Int) + 1).toNat = i + 1 from by omega]
  rw [show (r.take i ++ (r.drop (i + 1)).take (r.length - (i + 1)) ++ r.drop (i + (r.length - (i + 1)))).take (r.length - 1) = r.eraseIdx i from by
    rw [List.eraseIdx_eq_take_drop_succ, List.take_of_length_le (l := r.drop (i + 1)) (by simp), List.take_append_of_le_length (by simp; omega), List.take_of_length_le (by simp; omega)]]
  refine Xg.ops_nil ?_
  refine Xg.at_shrink (m := r.length - 1) 0 rfl (by omega) (by rw [mc_len, List.length_eraseIdx, if_pos hi]) ?_
  (focus
    refine Xg.at_seq ?_
    refine Xg.at_region ?_
    refine Xg.ops_op (by kernel_rfl) (Xg.opx_pure ((Value.slice a (r.length - (1 : Nat)) c)) rfl (fun _ => by kernel_rfl) ?_)
    refine Xg.ops_op (by kernel_rfl) (Xg.opx_pure ((Value.slice a (r.length - (1 : Nat)) c)) rfl (fun _ => by kernel_rfl) ?_)
    refine Xg.ops_nil ?_
    refine Xg.at_ret_ps (v := (Value.slice a (r.length - (1 : Nat)) c)) [0] [ownS (65 : TypeId) (2 : Nat) (Value.slice a (r.length - (1 : Nat)) c) (r.length - (1 : Nat)) (recs mc (r.eraseIdx i))] Go.Proofs.Try.func29 (fun _ => by kernel_rfl) (by kernel_rfl) (by kernel_rfl) ?_
    exact ⟨by kernel_rfl, by kernel_rfl⟩)
theorem delete_d (a : Option Addr) (c : Nat) (r : List (Int × Bool)) (i : Nat) (hi : i < r.length) : Does Try.prog 29 [.slice a r.length c, .int .i64 (i : Nat), .int .i64 ((i : Int) + 1)] [RP a c r]
    (Ret (.slice a (r.eraseIdx i).length c) [RP a c (r.eraseIdx i)]) := by
  have h := delete0_d a c r i hi
  have e : (r.eraseIdx i).length = r.length - 1 := by rw [List.length_eraseIdx, if_pos hi]
  unfold RP recsO at h ⊢
  rwa [e]
end Go.Proofs.Ytijjficnhpokdaa
