import Derived.Test.YtijjficnhpokdaaMAll8
import Derived.Test.YtijjficnhpokdaaProg
/- The sched package: places in lists; Contains. -/
namespace Go.Proofs.Ytijjficnhpokdaa
open Go.Sl Go.Xg
set_option linter.unusedVariables false
set_option linter.unusedSimpArgs false
set_option maxHeartbeats 4000000
set_option maxRecDepth 100000

/-- The first place where 'p' holds; -1: nowhere. -/
def fidx {α : Type} (p : α → Bool) : List α → Int
  | [] => -1
  | x :: l => if p x then 0 else (if fidx p l < 0 then -1 else fidx p l + 1)
section
variable {α : Type} {p : α → Bool}
theorem fidx_ge : ∀ l : List α, -1 ≤ fidx p l ∧ fidx p l < l.length
  | [] => by simp [fidx]
  | x :: l => by
    have := fidx_ge l
    unfold fidx
    split
    · simp
    · split <;> simp <;> omega
theorem fidx_no : ∀ l : List α, (∀ x ∈ l, p x = false) → fidx p l = -1
  | [], _ => rfl
  | x :: l, h => by
    unfold fidx
    rw [if_neg (by simp [h x (.head _)]), fidx_no l fun y hy => h y (.tail _ hy)]
    simp
theorem fidx_at (d : α) : ∀ (l : List α) (i : Nat), i < l.length → (∀ j, j < i → p (l.getD j d) = false) → p (l.getD i d) = true → fidx p l = i
  | [], i, h, _, _ => by simp at h
  | x :: l, 0, _, _, h => by unfold fidx; rw [if_pos (by simpa using h)]; rfl
  | x :: l, i + 1, hi, h, h1 => by
    have h0 : p x = false := by simpa using h 0 (by omega)
    have := fidx_at d l i (by simpa using hi) (fun j hj => by simpa using h (j + 1) (by omega)) (by simpa using h1)
    unfold fidx
    rw [if_neg (by simp [h0]), if_neg (by omega), this]
    simp
theorem fidx_end (d : α) (l : List α) (h : ∀ j, j < l.length → p (l.getD j d) = false) : fidx p l = -1 := fidx_no l fun x hx => by
  obtain ⟨i, hi, e⟩ := List.getElem_of_mem hx
  have := h i hi
  rw [List.getD_eq_getElem?_getD, List.getElem?_eq_getElem hi, e] at this
  exact this
theorem fidx_pos (d : α) : ∀ (l : List α), 0 ≤ fidx p l → p (l.getD (fidx p l).toNat d) = true
  | [], h => by simp [fidx] at h
  | x :: l, h => by
    unfold fidx at h ⊢
    split
    · rename_i h1; simpa using h1
    · rename_i h1
      rw [if_neg h1] at h
      split at h
      · omega
      · rename_i h2
        rw [if_neg h2]
        have := fidx_pos d l (by omega)
        rw [show (fidx p l + 1).toNat = (fidx p l).toNat + 1 from by omega]
        simpa using this
end

/-- slices.Index at []int. -/
theorem index_d (a : Option Addr) (c : Nat) (s : List Int) (v : Int) : Does Try.prog 40 [.slice a s.length c, .int .i64 v] [ints 3 .i64 a c s] (Ret (.int .i64 (fidx (fun x => v == x) s)) [ints 3 .i64 a c s]) := by
  (focus
    refine Xg.spec_of Go.Proofs.Try.func40 rfl Go.Proofs.Try.ntmps40 fun g F => ?_)
  obtain ⟨n, hn⟩ : ∃ n, fidx (fun x => v == x) s = n := ⟨_, rfl⟩
  rw [hn]
  refine Xg.at_own 0 rfl fun h1 h2 _ _ => ?_
  have hm : s.length ≤ maxLen := Nat.le_trans h1 h2
  unfold maxLen at hm
  clear h1 h2
  (focus
    refine Xg.at_seq ?_
    refine Xg.at_region ?_
    refine Xg.ops_op (by kernel_rfl) (Xg.opx_pure ((iv 0)) rfl (fun _ => by kernel_rfl) ?_)
    refine Xg.ops_nil ?_
    refine Xg.at_seq ?_
    refine Xg.at_seq ?_
    refine Xg.at_region ?_
    refine Xg.ops_op (by kernel_rfl) (Xg.opx_pure ((Value.slice a s.length c)) rfl (fun _ => by kernel_rfl) ?_)
    refine Xg.ops_op (by kernel_rfl) (Xg.opx_pure ((iv (↑s.length : Int))) rfl (fun _ => by kernel_rfl) ?_)
    refine Xg.ops_op (by kernel_rfl) (Xg.opx_pure ((iv 0)) rfl (fun _ => by kernel_rfl) ?_)
    refine Xg.ops_nil ?_
    refine Xg.at_block ?_)
  (focus
    refine Xg.at_rounds_inv (α := (Nat) × (Nat → Value)) (fun x => ((fun i => i ≤ s.length ∧ ∀ j, j < i → (v == s.getD j 0) = false) : (Nat) → Prop) x.1) (fun x => ((fun i => s.length - i) : (Nat) → Nat) x.1) (fun x => Xg.headT [Value.slice a s.length c, iv v, tu, tu, iv 0, tu, Value.slice a s.length c, iv (↑s.length : Int), iv 0, tu, tu, tu, tu, tu, tu, tu, tu, tu, tu] [4, 5, 9, 10, 11, 12, 13, 14, 15, 16, 17, 18] (((fun i => [(8, .int .i64 (i : Nat))]) : (Nat) → List (Nat × Go.Value)) x.1) x.2) (fun x => ((fun i => [ints 3 .i64 a c s]) : (Nat) → List Go.Sl.HP) x.1) ((0), fun j9 => ([Value.slice a s.length c, iv v, tu, tu, iv 0, tu, Value.slice a s.length c, iv (↑s.length : Int), iv 0, tu, tu, tu, tu, tu, tu, tu, tu, tu, tu] : List Value).getD j9 undef) (by kernel_rfl) (by kernel_rfl) ?_ ?_)
  · exact ⟨Nat.zero_le _, fun j hj => absurd hj (Nat.not_lt_zero _)⟩
  rintro ⟨i, J⟩ ⟨hi, hI⟩ ih
  dsimp only at hi hI
  (focus
    refine Xg.At.same (T' := [Value.slice a s.length c, iv v, tu, tu, J 4, J 5, Value.slice a s.length c, iv (↑s.length : Int), iv (↑i : Int), J 9, J 10, J 11, J 12, J 13, J 14, J 15, J 16, J 17, J 18]) (L' := [ints (3 : TypeId) IntKind.i64 a c s]) (by kernel_rfl) rfl ?_)
  by_cases hlt : i < s.length
  · have hv : (v == s.getD i 0) = decide (v = s.getD i 0) := rfl
    by_cases he : v = s.getD i 0
    · have := fidx_at 0 s i hlt hI (hv.trans (decide_eq_true he))
      rw [hn] at this
      subst this
      clear ih
      (focus
        refine Xg.at_seq ?_
        refine Xg.at_region ?_
        refine Xg.ops_op (by kernel_rfl) (Xg.opx_pure (.bool (decide ((((↑i : Int)) : Int) < ((↑s.length : Int))))) rfl (fun _ => by kernel_rfl) ?_)
        refine Xg.ops_nil ?_
        refine Xg.at_seq ?_
        refine Xg.at_true (t := decide (((↑i : Int) < (↑s.length : Int)))) (by kernel_rfl) (decide_eq_true (by omega)) ?_
        refine Xg.at_skip ?_
        refine Xg.at_seq ?_
        refine Xg.at_block ?_
        refine Xg.at_seq ?_
        refine Xg.at_region ?_
        refine Xg.ops_op (by kernel_rfl) (Xg.opx_pure ((iv (↑i : Int))) rfl (fun _ => by kernel_rfl) ?_)
        refine Xg.ops_op (by kernel_rfl) (Xg.opx_pure ((iv (↑i : Int))) rfl (fun _ => by kernel_rfl) ?_)
        refine Xg.ops_nil ?_
        refine Xg.at_seq ?_
        refine Xg.at_region ?_
        refine Xg.ops_op (by kernel_rfl) (Xg.opx_pure ((iv v)) rfl (fun _ => by kernel_rfl) ?_)
        refine Xg.ops_op (by kernel_rfl) (Xg.opx_pure ((Value.slice a s.length c)) rfl (fun _ => by kernel_rfl) ?_)
        refine Xg.ops_op (by kernel_rfl) (Xg.opx_pure ((iv (↑i : Int))) rfl (fun _ => by kernel_rfl) ?_)
        refine Xg.ops_op (by kernel_rfl) (Xg.opx_ix_own (elem := 3) (kd := .i64) (e := ((↑i : Int))) 0 1 i i rfl (by kernel_rfl) (by kernel_rfl) (by kernel_rfl) (by kernel_rfl) rfl (by omega) (by omega) ?_)
        refine Xg.ops_op (by kernel_rfl) (Xg.opx_load_own (a := a) (off := i) 0 (iv (s.getD i (0 : Int))) rfl (by kernel_rfl) (Xg.get_ints (by omega)) (by kernel_rfl) ?_)
        refine Xg.ops_op (by kernel_rfl) (Xg.opx_pure (.bool (decide ((v : Int) = (s.getD i (0 : Int))))) rfl (fun _ => by kernel_rfl) ?_)
        refine Xg.ops_nil ?_
        refine Xg.at_true (t := decide ((v = s.getD i (0 : Int)))) (by kernel_rfl) (decide_eq_true (by omega)) ?_
        refine Xg.at_seq ?_
        refine Xg.at_region ?_
        refine Xg.ops_op (by kernel_rfl) (Xg.opx_pure ((iv (↑i : Int))) rfl (fun _ => by kernel_rfl) ?_)
        refine Xg.ops_op (by kernel_rfl) (Xg.opx_pure ((iv (↑i : Int))) rfl (fun _ => by kernel_rfl) ?_)
        refine Xg.ops_nil ?_
        refine Xg.at_ret_ps (v := (iv (↑i : Int))) [0] [ints (3 : TypeId) IntKind.i64 a c s] Go.Proofs.Try.func40 (fun _ => by kernel_rfl) (by kernel_rfl) (by kernel_rfl) ?_
        exact ⟨by kernel_rfl, by kernel_rfl⟩)
    · (focus
        refine Xg.at_seq ?_
        refine Xg.at_region ?_
        refine Xg.ops_op (by kernel_rfl) (Xg.opx_pure (.bool (decide ((((↑i : Int)) : Int) < ((↑s.length : Int))))) rfl (fun _ => by kernel_rfl) ?_)
        refine Xg.ops_nil ?_
        refine Xg.at_seq ?_
        refine Xg.at_true (t := decide (((↑i : Int) < (↑s.length : Int)))) (by kernel_rfl) (decide_eq_true (by omega)) ?_
        refine Xg.at_skip ?_
        refine Xg.at_seq ?_
        refine Xg.at_block ?_
        refine Xg.at_seq ?_
        refine Xg.at_region ?_
        refine Xg.ops_op (by kernel_rfl) (Xg.opx_pure ((iv (↑i : Int))) rfl (fun _ => by kernel_rfl) ?_)
        refine Xg.ops_op (by kernel_rfl) (Xg.opx_pure ((iv (↑i : Int))) rfl (fun _ => by kernel_rfl) ?_)
        refine Xg.ops_nil ?_
        refine Xg.at_seq ?_
        refine Xg.at_region ?_
        refine Xg.ops_op (by kernel_rfl) (Xg.opx_pure ((iv v)) rfl (fun _ => by kernel_rfl) ?_)
        refine Xg.ops_op (by kernel_rfl) (Xg.opx_pure ((Value.slice a s.length c)) rfl (fun _ => by kernel_rfl) ?_)
        refine Xg.ops_op (by kernel_rfl) (Xg.opx_pure ((iv (↑i : Int))) rfl (fun _ => by kernel_rfl) ?_)
        refine Xg.ops_op (by kernel_rfl) (Xg.opx_ix_own (elem := 3) (kd := .i64) (e := ((↑i : Int))) 0 1 i i rfl (by kernel_rfl) (by kernel_rfl) (by kernel_rfl) (by kernel_rfl) rfl (by omega) (by omega) ?_)
        refine Xg.ops_op (by kernel_rfl) (Xg.opx_load_own (a := a) (off := i) 0 (iv (s.getD i (0 : Int))) rfl (by kernel_rfl) (Xg.get_ints (by omega)) (by kernel_rfl) ?_)
        refine Xg.ops_op (by kernel_rfl) (Xg.opx_pure (.bool (decide ((v : Int) = (s.getD i (0 : Int))))) rfl (fun _ => by kernel_rfl) ?_)
        refine Xg.ops_nil ?_
        refine Xg.at_false (t := decide ((v = s.getD i (0 : Int)))) (by kernel_rfl) (decide_eq_false (by omega)) ?_
        refine Xg.at_skip ?_
        refine Xg.at_inBlock ?_
        refine Xg.at_region ?_
        refine Xg.ops_op (by kernel_rfl) (Xg.opx_int .i64 (IntKind.wrap .i64 (((↑i : Int) + (1 : Int)))) rfl (fun _ => by kernel_rfl) (Xg.wrap_i64_in (by omega)) ?_)
        refine Xg.ops_op (by kernel_rfl) (Xg.opx_pure ((iv ((↑i : Int) + (1 : Int)))) rfl (fun _ => by kernel_rfl) ?_)
        refine Xg.ops_nil ?_
        refine Xg.at_inLoop ?_)
      (focus
        refine Xg.at_keep [0] (by kernel_rfl) ?_
        refine Xs.same ?_ (fun J9 => ih (((i + 1)), J9) ?_ ?_) (by kernel_rfl))
      · rfl
      · refine ⟨by dsimp only; omega, fun j hj => ?_⟩
        by_cases hj' : j = i
        · subst hj'; exact hv.trans (decide_eq_false he)
        · exact hI j (by omega)
      · dsimp only; omega
  · have := fidx_end 0 s (fun j hj => hI j (by omega))
    rw [hn] at this
    subst this
    clear ih
    (focus
      refine Xg.at_seq ?_
      refine Xg.at_region ?_
      refine Xg.ops_op (by kernel_rfl) (Xg.opx_pure (.bool (decide ((((↑i : Int)) : Int) < ((↑s.length : Int))))) rfl (fun _ => by kernel_rfl) ?_)
      refine Xg.ops_nil ?_
      refine Xg.at_seq ?_
      refine Xg.at_false (t := decide (((↑i : Int) < (↑s.length : Int)))) (by kernel_rfl) (decide_eq_false (by omega)) ?_
      refine Xg.at_exit rfl ?_
      refine Xg.at_seq ?_
      refine Xg.at_region ?_
      refine Xg.ops_op (by kernel_rfl) (Xg.opx_pure ((iv (-1))) rfl (fun _ => by kernel_rfl) ?_)
      refine Xg.ops_nil ?_
      refine Xg.at_ret_ps (v := (iv (-1))) [0] [ints (3 : TypeId) IntKind.i64 a c s] Go.Proofs.Try.func40 (fun _ => by kernel_rfl) (by kernel_rfl) (by kernel_rfl) ?_
      exact ⟨by kernel_rfl, by kernel_rfl⟩)
/-- slices.Contains at []int. -/
theorem contains_d (a : Option Addr) (c : Nat) (s : List Int) (v : Int) : Does Try.prog 28 [.slice a s.length c, .int .i64 v] [ints 3 .i64 a c s] (Ret (.bool (decide (0 ≤ fidx (fun x => v == x) s))) [ints 3 .i64 a c s]) := by
  have h := index_d a c s v
  (focus
    refine Xg.spec_of Go.Proofs.Try.func28 rfl Go.Proofs.Try.ntmps28 fun g F => ?_)
  obtain ⟨n, hn⟩ : ∃ n, fidx (fun x => v == x) s = n := ⟨_, rfl⟩
  rw [hn] at h ⊢
  (focus
    refine Xg.at_seq ?_
    refine Xg.at_region ?_
    refine Xg.ops_op (by kernel_rfl) (Xg.opx_pure ((Value.bool false)) rfl (fun _ => by kernel_rfl) ?_)
    refine Xg.ops_nil ?_
    refine Xg.at_seq ?_
    refine Xg.at_region ?_
    refine Xg.ops_op (by kernel_rfl) (Xg.opx_pure ((Value.slice a s.length c)) rfl (fun _ => by kernel_rfl) ?_)
    refine Xg.ops_op (by kernel_rfl) (Xg.opx_pure ((iv v)) rfl (fun _ => by kernel_rfl) ?_)
    refine Xg.ops_op (by kernel_rfl) (Xg.opx_call1' [0] [ints (3 : TypeId) IntKind.i64 a c s] (fun _ => by kernel_rfl) (@h ) (by kernel_rfl) (by kernel_rfl) (by kernel_rfl) ?_)
    refine Xg.ops_op (by kernel_rfl) (Xg.opx_pure (.bool (decide ((n : Int) ≥ ((0 : Int))))) rfl (fun _ => by kernel_rfl) ?_)
    refine Xg.ops_op (by kernel_rfl) (Xg.opx_pure ((Value.bool (decide (n ≥ (0 : Int))))) rfl (fun _ => by kernel_rfl) ?_)
    refine Xg.ops_nil ?_
    refine Xg.at_ret_ps (v := (Value.bool (decide (n ≥ (0 : Int))))) [0] [ints (3 : TypeId) IntKind.i64 a c s] Go.Proofs.Try.func28 (fun _ => by kernel_rfl) (by kernel_rfl) (by kernel_rfl) ?_
    exact ⟨by kernel_rfl, by kernel_rfl⟩)
end Go.Proofs.Ytijjficnhpokdaa
