/- The law SchedKept: the round is those that were added and not removed. -/
import Derived.Test.YtijjficnhpokdaaKP10
import Derived.Test.YtijjficnhpokdaaKS
import Derived.Test.YtijjficnhpokdaaG17
namespace Go.Proofs.Ytijjficnhpokdaa
open Go.Sl Go.Xg
set_option linter.unusedVariables false
set_option linter.unusedSimpArgs false
set_option linter.unnecessarySimpa false
set_option maxHeartbeats 4000000
set_option maxRecDepth 100000

theorem same_eq (a b : Option Addr) (c d : Nat) (xs : List Int) (hm : xs.length ≤ 64) : Does Try.prog 24 [.slice a xs.length c, .slice b xs.length d] [ints 3 .i64 a c xs, ints 3 .i64 b d xs] (Ret (.bool true) [ints 3 .i64 a c xs, ints 3 .i64 b d xs]) := by
  (focus
    refine Xg.spec_of Go.Proofs.Try.func24 rfl Go.Proofs.Try.ntmps24 fun g F => ?_)
  (focus
    refine Xg.at_seq ?_
    refine Xg.at_region ?_
    refine Xg.ops_op (by kernel_rfl) (Xg.opx_pure ((Value.bool false)) rfl (fun _ => by kernel_rfl) ?_)
    refine Xg.ops_nil ?_
    refine Xg.at_seq ?_
    refine Xg.at_seq ?_
    refine Xg.at_region ?_
    refine Xg.ops_op (by kernel_rfl) (Xg.opx_pure ((Value.slice a xs.length c)) rfl (fun _ => by kernel_rfl) ?_)
    refine Xg.ops_op (by kernel_rfl) (Xg.opx_pure ((iv (↑xs.length : Int))) rfl (fun _ => by kernel_rfl) ?_)
    refine Xg.ops_op (by kernel_rfl) (Xg.opx_pure ((Value.slice b xs.length d)) rfl (fun _ => by kernel_rfl) ?_)
    refine Xg.ops_op (by kernel_rfl) (Xg.opx_pure ((iv (↑xs.length : Int))) rfl (fun _ => by kernel_rfl) ?_)
    refine Xg.ops_op (by kernel_rfl) (Xg.opx_pure (.bool (!decide ((((↑xs.length : Int)) : Int) = ((↑xs.length : Int))))) rfl (fun _ => by kernel_rfl) ?_)
    refine Xg.ops_nil ?_
    refine Xg.at_false (t := !decide (((↑xs.length : Int) = (↑xs.length : Int)))) (by kernel_rfl) (by rw [decide_eq_true (by omega)]; rfl) ?_
    refine Xg.at_skip ?_
    refine Xg.at_seq ?_
    refine Xg.at_seq ?_
    refine Xg.at_region ?_
    refine Xg.ops_op (by kernel_rfl) (Xg.opx_pure ((iv 0)) rfl (fun _ => by kernel_rfl) ?_)
    refine Xg.ops_nil ?_
    refine Xg.at_block ?_)
  (focus
    refine Xg.at_rounds_inv (α := (Nat) × (Nat → Value)) (fun x => ((fun i => i ≤ xs.length) : (Nat) → Prop) x.1) (fun x => ((fun i => xs.length - i) : (Nat) → Nat) x.1) (fun x => Xg.headT [Value.slice a xs.length c, Value.slice b xs.length d, tu, tu, Value.bool false, iv 0, Value.slice a xs.length c, iv (↑xs.length : Int), Value.slice b xs.length d, iv (↑xs.length : Int), Value.bool !decide ((↑xs.length : Int) = (↑xs.length : Int)), tu, tu, tu, tu, tu, tu, tu, tu, tu, tu, tu, tu, tu, tu, tu] [4, 11, 12, 13, 14, 15, 16, 17, 18, 19, 20, 21, 22, 23, 24, 25] (((fun i => [(5, .int .i64 (i : Nat))]) : (Nat) → List (Nat × Go.Value)) x.1) x.2) (fun x => ((fun i => [ints 3 .i64 a c xs, ints 3 .i64 b d xs]) : (Nat) → List Go.Sl.HP) x.1) ((0), fun j => ([Value.slice a xs.length c, Value.slice b xs.length d, tu, tu, Value.bool false, iv 0, Value.slice a xs.length c, iv (↑xs.length : Int), Value.slice b xs.length d, iv (↑xs.length : Int), Value.bool !decide ((↑xs.length : Int) = (↑xs.length : Int)), tu, tu, tu, tu, tu, tu, tu, tu, tu, tu, tu, tu, tu, tu, tu] : List Value).getD j undef) (by kernel_rfl) (by kernel_rfl) ?_ ?_)
  · exact Nat.zero_le _
  rintro ⟨i, J⟩ hi ih
  dsimp only at hi
  (focus
    refine Xg.At.same (T' := [Value.slice a xs.length c, Value.slice b xs.length d, tu, tu, J 4, iv (↑i : Int), Value.slice a xs.length c, iv (↑xs.length : Int), Value.slice b xs.length d, iv (↑xs.length : Int), Value.bool !decide ((↑xs.length : Int) = (↑xs.length : Int)), J 11, J 12, J 13, J 14, J 15, J 16, J 17, J 18, J 19, J 20, J 21, J 22, J 23, J 24, J 25]) (L' := [ints (3 : TypeId) IntKind.i64 a c xs, ints (3 : TypeId) IntKind.i64 b d xs]) (by kernel_rfl) rfl ?_)
  by_cases hlt : i < xs.length
  · (focus
      refine Xg.at_seq ?_
      refine Xg.at_seq ?_
      refine Xg.at_region ?_
      refine Xg.ops_op (by kernel_rfl) (Xg.opx_pure ((iv (↑i : Int))) rfl (fun _ => by kernel_rfl) ?_)
      refine Xg.ops_op (by kernel_rfl) (Xg.opx_pure ((Value.slice a xs.length c)) rfl (fun _ => by kernel_rfl) ?_)
      refine Xg.ops_op (by kernel_rfl) (Xg.opx_pure ((iv (↑xs.length : Int))) rfl (fun _ => by kernel_rfl) ?_)
      refine Xg.ops_op (by kernel_rfl) (Xg.opx_pure (.bool (decide ((((↑i : Int)) : Int) < ((↑xs.length : Int))))) rfl (fun _ => by kernel_rfl) ?_)
      refine Xg.ops_nil ?_
      refine Xg.at_true (t := decide (((↑i : Int) < (↑xs.length : Int)))) (by kernel_rfl) (decide_eq_true (by omega)) ?_
      refine Xg.at_skip ?_
      refine Xg.at_seq ?_
      refine Xg.at_block ?_
      refine Xg.at_seq ?_
      refine Xg.at_draw [] [(2, [0, 1, 2, 4, 5, 6, 7], (RdIs (1 : Nat) (Value.slice a xs.length c) xs.length (List.map (Value.int IntKind.i64) xs))), (3, [0, 1, 2, 3, 4, 5, 6, 7], (RdIs (1 : Nat) (Value.slice a xs.length c) xs.length (List.map (Value.int IntKind.i64) xs))), (6, [0, 1, 2, 3, 4, 5, 6], (RdIs (1 : Nat) (Value.slice b xs.length d) xs.length (List.map (Value.int IntKind.i64) xs))), (7, [0, 1, 2, 3, 4, 5, 6, 7], (RdIs (1 : Nat) (Value.slice b xs.length d) xs.length (List.map (Value.int IntKind.i64) xs)))] (by kernel_rfl) ?_
      refine Xg.any_pure ((Value.slice a xs.length c)) 0 (by kernel_rfl) rfl (by kernel_rfl) (by kernel_rfl) (by kernel_rfl) (by kernel_rfl) rfl (fun _ => by kernel_rfl) ?_
      refine Xg.any_pure ((iv (↑i : Int))) 1 (by kernel_rfl) rfl (by kernel_rfl) (by kernel_rfl) (by kernel_rfl) (by kernel_rfl) rfl (fun _ => by kernel_rfl) ?_
      refine Xg.any_reads (.pointer (some (Addr.mk (Xg.blk a) (offA a + i) none))) 2 0 (by kernel_rfl) rfl (by kernel_rfl) (by kernel_rfl) (by kernel_rfl) (by kernel_rfl) rfl rfl (by kernel_rfl) (Xg.rd_now 0 (Xg.reads_own (E := ((3 : TypeId))) (sz := ((1 : Nat))) (n := xs.length) (c := c) (a := a) (vs := (List.map (Value.int IntKind.i64) xs))) (by kernel_rfl)) (Xg.run_ix_rd (elem := 3) (kd := .i64) (e := ((↑i : Int))) 1 i (offA a + i) (by kernel_rfl) (by kernel_rfl) (by kernel_rfl) (by kernel_rfl) rfl (by omega) (by simp only [List.length_map]; omega) (by omega)) ?_
      refine Xg.any_reads (iv (xs.getD i (0 : Int))) 3 1 (by kernel_rfl) rfl (by kernel_rfl) (by kernel_rfl) (by kernel_rfl) (by kernel_rfl) rfl rfl (by kernel_rfl) (Xg.rd_now 0 (Xg.reads_own (E := ((3 : TypeId))) (sz := ((1 : Nat))) (n := xs.length) (c := c) (a := a) (vs := (List.map (Value.int IntKind.i64) xs))) (by kernel_rfl)) (Xg.run_load_rd (off0 := (offA a + i)) i (by kernel_rfl) (by omega) (Xg.get_ints (by omega)) (by kernel_rfl)) ?_
      refine Xg.any_pure ((Value.slice b xs.length d)) 4 (by kernel_rfl) rfl (by kernel_rfl) (by kernel_rfl) (by kernel_rfl) (by kernel_rfl) rfl (fun _ => by kernel_rfl) ?_
      refine Xg.any_pure ((iv (↑i : Int))) 5 (by kernel_rfl) rfl (by kernel_rfl) (by kernel_rfl) (by kernel_rfl) (by kernel_rfl) rfl (fun _ => by kernel_rfl) ?_
      refine Xg.any_reads (.pointer (some (Addr.mk (Xg.blk b) (offA b + i) none))) 6 2 (by kernel_rfl) rfl (by kernel_rfl) (by kernel_rfl) (by kernel_rfl) (by kernel_rfl) rfl rfl (by kernel_rfl) (Xg.rd_now 1 (Xg.reads_own (E := ((3 : TypeId))) (sz := ((1 : Nat))) (n := xs.length) (c := d) (a := b) (vs := (List.map (Value.int IntKind.i64) xs))) (by kernel_rfl)) (Xg.run_ix_rd (elem := 3) (kd := .i64) (e := ((↑i : Int))) 1 i (offA b + i) (by kernel_rfl) (by kernel_rfl) (by kernel_rfl) (by kernel_rfl) rfl (by omega) (by simp only [List.length_map]; omega) (by omega)) ?_
      refine Xg.any_reads (iv (xs.getD i (0 : Int))) 7 3 (by kernel_rfl) rfl (by kernel_rfl) (by kernel_rfl) (by kernel_rfl) (by kernel_rfl) rfl rfl (by kernel_rfl) (Xg.rd_now 1 (Xg.reads_own (E := ((3 : TypeId))) (sz := ((1 : Nat))) (n := xs.length) (c := d) (a := b) (vs := (List.map (Value.int IntKind.i64) xs))) (by kernel_rfl)) (Xg.run_load_rd (off0 := (offA b + i)) i (by kernel_rfl) (by omega) (Xg.get_ints (by omega)) (by kernel_rfl)) ?_
      refine Xg.any_pure (.bool (!decide (((xs.getD i (0 : Int)) : Int) = (xs.getD i (0 : Int))))) 8 (by kernel_rfl) rfl (by kernel_rfl) (by kernel_rfl) (by kernel_rfl) (by kernel_rfl) rfl (fun _ => by kernel_rfl) ?_
      refine Xg.any_nil (by kernel_rfl) ?_
      refine Xg.at_false (t := !decide ((xs.getD i (0 : Int) = xs.getD i (0 : Int)))) (by kernel_rfl) (by rw [decide_eq_true (by omega)]; rfl) ?_
      refine Xg.at_skip ?_
      refine Xg.at_inBlock ?_
      refine Xg.at_region ?_
      refine Xg.ops_op (by kernel_rfl) (Xg.opx_pure ((iv (↑i : Int))) rfl (fun _ => by kernel_rfl) ?_)
      refine Xg.ops_op (by kernel_rfl) (Xg.opx_int .i64 (IntKind.wrap .i64 (((↑i : Int) + (1 : Int)))) rfl (fun _ => by kernel_rfl) (Xg.wrap_i64_in (by omega)) ?_)
      refine Xg.ops_op (by kernel_rfl) (Xg.opx_pure ((iv ((↑i : Int) + (1 : Int)))) rfl (fun _ => by kernel_rfl) ?_)
      refine Xg.ops_nil ?_
      refine Xg.at_inLoop ?_)
    (focus
      refine Xg.at_keep [0, 1] (by kernel_rfl) ?_
      refine Xs.same ?_ (fun J9 => ih (((i + 1)), J9) ?_ ?_) (by kernel_rfl))
    · rfl
    · dsimp only; omega
    · dsimp only; omega
  · clear ih
    (focus
      refine Xg.at_seq ?_
      refine Xg.at_seq ?_
      refine Xg.at_region ?_
      refine Xg.ops_op (by kernel_rfl) (Xg.opx_pure ((iv (↑i : Int))) rfl (fun _ => by kernel_rfl) ?_)
      refine Xg.ops_op (by kernel_rfl) (Xg.opx_pure ((Value.slice a xs.length c)) rfl (fun _ => by kernel_rfl) ?_)
      refine Xg.ops_op (by kernel_rfl) (Xg.opx_pure ((iv (↑xs.length : Int))) rfl (fun _ => by kernel_rfl) ?_)
      refine Xg.ops_op (by kernel_rfl) (Xg.opx_pure (.bool (decide ((((↑i : Int)) : Int) < ((↑xs.length : Int))))) rfl (fun _ => by kernel_rfl) ?_)
      refine Xg.ops_nil ?_
      refine Xg.at_false (t := decide (((↑i : Int) < (↑xs.length : Int)))) (by kernel_rfl) (decide_eq_false (by omega)) ?_
      refine Xg.at_exit rfl ?_
      refine Xg.at_seq ?_
      refine Xg.at_region ?_
      refine Xg.ops_op (by kernel_rfl) (Xg.opx_pure ((Value.bool true)) rfl (fun _ => by kernel_rfl) ?_)
      refine Xg.ops_nil ?_
      refine Xg.at_ret_ps (v := (Value.bool true)) [0, 1] [ints (3 : TypeId) IntKind.i64 a c xs, ints (3 : TypeId) IntKind.i64 b d xs] Go.Proofs.Try.func24 (fun _ => by kernel_rfl) (by kernel_rfl) (by kernel_rfl) ?_
      exact ⟨by kernel_rfl, by kernel_rfl⟩)

/-- A round in which nobody is ready. -/
def rw_ (W : List Int) : List (Int × Bool) := W.map fun x => (x, false)
theorem rw_len (W : List Int) : (rw_ W).length = W.length := by simp [rw_]
theorem rw_fst (W : List Int) : (rw_ W).map (·.1) = W := by simp [rw_, Function.comp_def]
theorem rw_get (W : List Int) (i : Nat) (h : i < W.length) : (rw_ W).getD i default = (W.getD i 0, false) := by simp [rw_, List.getD, h]
theorem rw_neg (W : List Int) (id : Int) (h : at_ id (rw_ W) < 0) : ∀ i, i < W.length → W.getD i 0 ≠ id := fun i hi e => by
  have := fidx_neg (p := fun x : Int × Bool => x.1 == id) (rw_ W) h (W[i], false) (List.mem_map.2 ⟨W[i], List.getElem_mem hi, rfl⟩)
  have e' : W[i] = id := by simpa [List.getD, hi] using e
  simp [e'] at this
theorem rw_pos (W : List Int) (id : Int) (i : Nat) (h : at_ id (rw_ W) = i) : i < W.length ∧ W.getD i 0 = id := by
  have h1 := (at_ge id (rw_ W)).2
  rw [h, rw_len] at h1
  have h2 := at_id id (rw_ W) (by omega)
  rw [h, Int.toNat_natCast, rw_get W i (by omega)] at h2
  exact ⟨by omega, h2⟩
theorem rw_erase (W : List Int) (i : Nat) : (rw_ W).eraseIdx i = rw_ (W.eraseIdx i) := by
  unfold rw_; rw [List.eraseIdx_eq_take_drop_succ, List.eraseIdx_eq_take_drop_succ, List.map_append, List.map_take, List.map_drop]
theorem kept_next (W : List Int) (s : List Int) : next (rw_ W) s = -1 := fidx_no _ fun x hx => by
  obtain ⟨y, _, rfl⟩ := List.mem_map.1 hx
  rfl

section
variable (p k : Nat) (W : List Int) (id : Int)
theorem kept_add_has (h64 : W.length ≤ 64) (i : Nat) (h0 : 0 ≤ id) (h : at_ id (rw_ W) = i) : Does Try.prog 22 [.pointer (some ⟨p, 0, none⟩), .int .i64 id] [SchedP p (rw_ W) (List.replicate k (-1))] (Ret (.int .i64 132) [SchedP p (rw_ W) (List.replicate k (-1))]) := by
  have hd := add_d p (rw_ W) (List.replicate k (-1)) id (by rw [rw_len]; exact h64)
  have e : addE id (rw_ W) = 132 := by unfold addE; rw [h, if_neg (by omega), if_pos (by omega)]
  unfold addR at hd
  rwa [e, if_neg (by decide)] at hd
theorem kept_rem_has (i : Nat) (h : at_ id (rw_ W) = i) : Does Try.prog 23 [.pointer (some ⟨p, 0, none⟩), .int .i64 id] [SchedP p (rw_ W) (List.replicate k (-1))] (Ret (.int .i64 0) [SchedP p (rw_ (W.eraseIdx i)) (List.replicate k (-1))]) := by
  have hd := remove_d p (rw_ W) (List.replicate k (-1)) id
  unfold hasE remR at hd
  rwa [h, if_neg (by omega), if_neg (by omega), Int.toNat_natCast, rw_erase] at hd
theorem kept_rem_no (h : at_ id (rw_ W) < 0) : Does Try.prog 23 [.pointer (some ⟨p, 0, none⟩), .int .i64 id] [SchedP p (rw_ W) (List.replicate k (-1))] (Ret (.int .i64 132) [SchedP p (rw_ W) (List.replicate k (-1))]) := by
  have hd := remove_d p (rw_ W) (List.replicate k (-1)) id
  unfold hasE remR at hd
  rwa [if_pos h, if_pos h] at hd
theorem kept_add_no (h64 : W.length < 64) (h0 : 0 ≤ id) (h : at_ id (rw_ W) < 0) : Does Try.prog 22 [.pointer (some ⟨p, 0, none⟩), .int .i64 id] [SchedP p (rw_ W) (List.replicate k (-1))] (Ret (.int .i64 0) [SchedP p (rw_ (W ++ [id])) (List.replicate k (-1))]) := by
  have hd := add_d p (rw_ W) (List.replicate k (-1)) id (by rw [rw_len]; omega)
  have e : addE id (rw_ W) = 0 := by unfold addE; rw [if_neg (by omega), if_neg (by omega), if_neg (by rw [rw_len]; omega)]
  unfold addR at hd
  rw [e, if_pos rfl] at hd
  have e2 : rw_ (W ++ [id]) = rw_ W ++ [(id, false)] := by simp [rw_]
  rwa [e2]
theorem kept_add_full (h64 : W.length = 64) (h0 : 0 ≤ id) (h : at_ id (rw_ W) < 0) : Does Try.prog 22 [.pointer (some ⟨p, 0, none⟩), .int .i64 id] [SchedP p (rw_ W) (List.replicate k (-1))] (Ret (.int .i64 133) [SchedP p (rw_ W) (List.replicate k (-1))]) := by
  have hd := add_d p (rw_ W) (List.replicate k (-1)) id (by rw [rw_len]; omega)
  have e : addE id (rw_ W) = 133 := by unfold addE; rw [if_neg (by omega), if_neg (by omega), if_pos (by rw [rw_len]; omega)]
  unfold addR at hd
  rwa [e, if_neg (by decide)] at hd
theorem kept_round (h64 : W.length ≤ 64) : Does Try.prog 16 [.pointer (some ⟨p, 0, none⟩)] [SchedP p (rw_ W) (List.replicate k (-1))]
    (RetE (fun x : Option Addr × Nat => True) (fun x => .slice x.1 W.length x.2) (fun x => [SchedP p (rw_ W) (List.replicate k (-1)), ints 3 .i64 x.1 x.2 W])) := by
  have hd := round_d p (rw_ W) (List.replicate k (-1)) (by rw [rw_len]; exact h64)
  rwa [rw_fst] at hd
theorem kept_begin (h64 : W.length ≤ 64) (hk : 0 < k) : Does Try.prog 13 [.pointer (some ⟨p, 0, none⟩), .int .i64 0] [SchedP p (rw_ W) (List.replicate k (-1))] (Ret (.tuple #[.int .i64 0, .int .i64 134]) [SchedP p (rw_ W) (List.replicate k (-1))]) := by
  have hd := begin_d p (rw_ W) (List.replicate k (-1)) 0 (by rw [rw_len]; exact h64)
  have e : (List.replicate k (-1 : Int)).getD (Int.toNat 0) 0 = -1 := by simp [List.getD, hk]
  unfold begV begR begS at hd
  rwa [kept_next, e, List.length_replicate, if_neg (by omega), if_pos (by omega), if_neg (by omega), if_neg (by omega)] at hd
end

structure Kept (W : List Int) : Prop where
  len : W.length ≤ 64
  nd : W.Nodup
  bd : ∀ x ∈ W, 0 ≤ x ∧ x < 100

theorem Kept.one {W : List Int} (h : Kept W) {i j : Nat} (hi : i < W.length) (hj : j < W.length) (e : W.getD i 0 = W.getD j 0) : i = j := by
  have e' : W[i] = W[j] := by simpa [List.getD, hi, hj] using e
  exact (List.getElem_inj h.nd).1 e'
theorem Kept.erase {W : List Int} (h : Kept W) (i : Nat) : Kept (W.eraseIdx i) :=
  ⟨by have := List.length_eraseIdx_le W i; have := h.len; omega, h.nd.eraseIdx i, fun x hx => h.bd x (List.mem_of_mem_eraseIdx hx)⟩
theorem Kept.add {W : List Int} (h : Kept W) (id : Int) (h0 : 0 ≤ id ∧ id < 100) (hl : W.length < 64) (hn : ∀ i, i < W.length → W.getD i 0 ≠ id) : Kept (W ++ [id]) :=
  ⟨by simp; omega, by
    rw [List.nodup_append]
    refine ⟨h.nd, by simp, fun a ha b hb e => ?_⟩
    obtain ⟨i, hi, e1⟩ := List.getElem_of_mem ha
    have : b = id := by simpa using hb
    exact hn i hi (by simp [List.getD, hi, e1, e, this]), fun x hx => by
    rcases List.mem_append.1 hx with e | e
    · exact h.bd x e
    · have : x = id := by simpa using e
      omega⟩

set_option maxHeartbeats 0 in
theorem pkept_d (A : HP) (slots0 : Int) (hsl : i64ok slots0) (a : Option Addr) (n c : Nat) (xs : List Int) (hn : xs.length = n) (hmx : n ≤ maxLen) (hR : Reads A 1 (.slice a n c) n (xs.map (Value.int .i64))) (hB : ∀ i, i < n → i64ok (xs.getD i 0)) :
    Does Try.prog 8 [.int .i64 slots0, .slice a n c] [A] (Ret (.bool true) [A]) := by
  (focus
    refine Xg.spec_of Go.Proofs.Try.func8 rfl Go.Proofs.Try.ntmps8 fun g F => ?_)
  unfold maxLen at hmx
  have hmd := fun k h1 h8 => made_d k 0 h1 h8 (by decide)
  (focus
    refine Xg.at_seq ?_
    refine Xg.at_region ?_
    refine Xg.ops_op (by kernel_rfl) (Xg.opx_pure ((Value.bool false)) rfl (fun _ => by kernel_rfl) ?_)
    refine Xg.ops_nil ?_
    refine Xg.at_seq ?_
    refine Xg.at_region ?_
    refine Xg.ops_op (by kernel_rfl) (Xg.opx_call1' [] [A] (fun _ => by kernel_rfl) (@Go.Proofs.Ytijjficnhpokdaa.begun_d ) (by kernel_rfl) (by kernel_rfl) (by kernel_rfl) ?_)
    refine Xg.ops_op (by kernel_rfl) (Xg.opx_pure ((Value.bool true)) rfl (fun _ => by kernel_rfl) ?_)
    refine Xg.ops_nil ?_
    refine Xg.at_seq ?_
    refine Xg.at_region ?_
    refine Xg.ops_op (by kernel_rfl) (Xg.opx_pure ((iv slots0)) rfl (fun _ => by kernel_rfl) ?_)
    refine Xg.ops_op (by kernel_rfl) (Xg.opx_callE' [] (fun xx1 => [A]) (fun _ => by kernel_rfl) (@Go.Proofs.Ytijjficnhpokdaa.pick_d (slots0) ((nat_lit 8)) (by omega) (by first | rfl | decide | (constructor <;> omega) | (simp; done) | (simp; omega))) (by kernel_rfl) (by kernel_rfl) (by kernel_rfl) fun xx1 xh1 => ?_)
    try dsimp only at xh1
    obtain ⟨xh1_0, xh1_1⟩ := xh1
    refine Xg.ops_op (by kernel_rfl) (Xg.opx_int .i64 (IntKind.wrap .i64 (((1 : Int) + (↑xx1 : Int)))) rfl (fun _ => by kernel_rfl) (Xg.wrap_i64_in (by omega)) ?_)
    refine Xg.ops_op (by kernel_rfl) (Xg.opx_callE' [] (fun xx2 => [SchedP xx2 (full (0 : Nat)) (List.replicate (nat_lit 1 + xx1) (-1 : Int)), A]) (fun _ => by kernel_rfl) (@hmd ((nat_lit 1 + xx1)) (by first | rfl | decide | (constructor <;> omega) | (simp; done) | (simp; omega)) (by first | rfl | decide | (constructor <;> omega) | (simp; done) | (simp; omega))) (by kernel_rfl) (by kernel_rfl) (by kernel_rfl) fun xx2 xh2 => ?_)
    try dsimp only at xh2
    refine Xg.ops_op (by kernel_rfl) (Xg.opx_pure ((pv xx2 0)) rfl (fun _ => by kernel_rfl) ?_)
    refine Xg.ops_nil ?_
    refine Xg.at_seq ?_
    refine Xg.at_seq ?_
    refine Xg.at_region ?_
    refine Xg.ops_op (by kernel_rfl) (Xg.opx_pure ((Value.bool true)) rfl (fun _ => by kernel_rfl) ?_)
    refine Xg.ops_op (by kernel_rfl) (Xg.opx_pure (.bool false) rfl (fun _ => by kernel_rfl) ?_)
    refine Xg.ops_op (by kernel_rfl) (Xg.opx_pure ((Value.bool false)) rfl (fun _ => by kernel_rfl) ?_)
    refine Xg.ops_op (by kernel_rfl) (Xg.opx_pure ((pv xx2 0)) rfl (fun _ => by kernel_rfl) ?_)
    refine Xg.ops_op (by kernel_rfl) (Xg.opx_pure ((Value.bool false)) rfl (fun _ => by kernel_rfl) ?_)
    refine Xg.ops_op (by kernel_rfl) (Xg.opx_pure ((Value.bool false)) rfl (fun _ => by kernel_rfl) ?_)
    refine Xg.ops_nil ?_
    refine Xg.at_false (t := false) (by kernel_rfl) rfl ?_
    refine Xg.at_skip ?_
    refine Xg.at_seq ?_
    refine Xg.at_region ?_
    refine Xg.ops_op (by kernel_rfl) (Xg.opx_pure ((Value.slice none (0 : Nat) (0 : Nat))) rfl (fun _ => by kernel_rfl) ?_)
    refine Xg.ops_nil ?_
    refine Xg.at_seq ?_
    refine Xg.at_seq ?_
    refine Xg.at_region ?_
    refine Xg.ops_op (by kernel_rfl) (Xg.opx_pure ((iv 0)) rfl (fun _ => by kernel_rfl) ?_)
    refine Xg.ops_nil ?_
    refine Xg.at_block ?_)
  rw [show full 0 = rw_ [] from rfl]
  refine Xg.at_nil_ints 3 .i64 ?_
  (focus
    refine Xg.at_keep [1, 2, 0] (by kernel_rfl) ?_
    refine Xg.at_rounds_inv (α := (Nat × List Int × Option Addr × Nat) × (Nat → Value)) (fun x => ((fun x => x.1 ≤ n ∧ Kept x.2.1) : (Nat × List Int × Option Addr × Nat) → Prop) x.1) (fun x => ((fun x => n - x.1) : (Nat × List Int × Option Addr × Nat) → Nat) x.1) (fun x => Xg.headT [iv slots0, Value.slice a n c, tu, tu, Value.bool false, Value.bool true, pv xx2 0, Value.slice none (0 : Nat) (0 : Nat), iv 0, tu, tu, tu, tu, tu, tu, tu, tu, tu, tu, tu, tu, Value.bool true, iv slots0, iv (↑xx1 : Int), iv ((1 : Int) + (↑xx1 : Int)), pv xx2 0, Value.bool true, Value.bool false, Value.bool false, pv xx2 0, Value.bool false, Value.bool false, tu, tu, tu, tu, tu, tu, tu, tu, tu, tu, tu, tu, tu, tu, tu, tu, tu, tu, tu, tu, tu, tu, tu, tu, tu, tu, tu, tu, tu, tu, tu, tu, tu, tu, tu, tu, tu, tu, tu, tu, tu, tu, tu, tu, tu, tu, tu, tu, tu, tu, tu, tu, tu, tu, tu, tu, tu, tu, tu, tu, tu, tu, tu, tu, tu, tu, tu, tu, tu, tu, tu, tu, tu, tu, tu, tu, tu, tu, tu, tu, tu, tu, tu, tu, tu, tu, tu, tu, tu, tu, tu, tu, tu, tu] [4, 9, 10, 11, 12, 13, 14, 15, 16, 32, 33, 34, 35, 36, 37, 38, 39, 40, 41, 42, 43, 44, 45, 46, 47, 48, 49, 50, 51, 52, 53, 54, 55, 56, 57, 58, 59, 60, 61, 62, 63, 64, 65, 66, 67, 68, 69, 70, 71, 72, 73, 74, 75, 76, 77, 78, 79, 80, 81, 82, 83, 84, 85, 86, 87, 88, 89, 90, 91, 92, 93, 94, 95, 96, 97, 98, 99, 100, 101, 102, 103, 104, 105, 106, 107, 108, 109, 110] (((fun x => [(8, .int .i64 (x.1 : Nat)), (7, .slice x.2.2.1 x.2.1.length x.2.2.2)]) : (Nat × List Int × Option Addr × Nat) → List (Nat × Go.Value)) x.1) x.2) (fun x => ((fun x => [SchedP xx2 (rw_ x.2.1) (List.replicate (1 + xx1) (-1)), A, ints 3 .i64 x.2.2.1 x.2.2.2 x.2.1]) : (Nat × List Int × Option Addr × Nat) → List Go.Sl.HP) x.1) (((0, [], none, 0)), fun j => ([iv slots0, Value.slice a n c, tu, tu, Value.bool false, Value.bool true, pv xx2 0, Value.slice none (0 : Nat) (0 : Nat), iv 0, tu, tu, tu, tu, tu, tu, tu, tu, tu, tu, tu, tu, Value.bool true, iv slots0, iv (↑xx1 : Int), iv ((1 : Int) + (↑xx1 : Int)), pv xx2 0, Value.bool true, Value.bool false, Value.bool false, pv xx2 0, Value.bool false, Value.bool false, tu, tu, tu, tu, tu, tu, tu, tu, tu, tu, tu, tu, tu, tu, tu, tu, tu, tu, tu, tu, tu, tu, tu, tu, tu, tu, tu, tu, tu, tu, tu, tu, tu, tu, tu, tu, tu, tu, tu, tu, tu, tu, tu, tu, tu, tu, tu, tu, tu, tu, tu, tu, tu, tu, tu, tu, tu, tu, tu, tu, tu, tu, tu, tu, tu, tu, tu, tu, tu, tu, tu, tu, tu, tu, tu, tu, tu, tu, tu, tu, tu, tu, tu, tu, tu, tu, tu, tu, tu, tu, tu, tu, tu, tu] : List Value).getD j undef) (by kernel_rfl) (by kernel_rfl) ?_ ?_)
  · exact ⟨Nat.zero_le _, ⟨Nat.zero_le _, List.nodup_nil, fun x hx => by cases hx⟩⟩
  rintro ⟨⟨i, W, wa, wc⟩, J⟩ ⟨hi, hW⟩ ih
  dsimp only at hi hW
  (focus
    refine Xg.At.same (T' := [iv slots0, Value.slice a n c, tu, tu, J 4, Value.bool true, pv xx2 0, Value.slice wa W.length wc, iv (↑i : Int), J 9, J 10, J 11, J 12, J 13, J 14, J 15, J 16, tu, tu, tu, tu, Value.bool true, iv slots0, iv (↑xx1 : Int), iv ((1 : Int) + (↑xx1 : Int)), pv xx2 0, Value.bool true, Value.bool false, Value.bool false, pv xx2 0, Value.bool false, Value.bool false, J 32, J 33, J 34, J 35, J 36, J 37, J 38, J 39, J 40, J 41, J 42, J 43, J 44, J 45, J 46, J 47, J 48, J 49, J 50, J 51, J 52, J 53, J 54, J 55, J 56, J 57, J 58, J 59, J 60, J 61, J 62, J 63, J 64, J 65, J 66, J 67, J 68, J 69, J 70, J 71, J 72, J 73, J 74, J 75, J 76, J 77, J 78, J 79, J 80, J 81, J 82, J 83, J 84, J 85, J 86, J 87, J 88, J 89, J 90, J 91, J 92, J 93, J 94, J 95, J 96, J 97, J 98, J 99, J 100, J 101, J 102, J 103, J 104, J 105, J 106, J 107, J 108, J 109, J 110, tu, tu, tu, tu, tu, tu, tu, tu, tu, tu, tu, tu, tu, tu, tu]) (L' := [SchedP xx2 (rw_ ((i, W, wa, wc), J).fst.snd.fst) (List.replicate ((1 : Nat) + xx1) (-1 : Int)), A, ints (3 : TypeId) IntKind.i64 ((i, W, wa, wc), J).fst.snd.snd.fst ((i, W, wa, wc), J).fst.snd.snd.snd ((i, W, wa, wc), J).fst.snd.fst]) (by kernel_rfl) rfl ?_)
  dsimp only
  have h64 := hW.len
  by_cases hlt : i < n
  · have hBi := hB i hlt
    (focus
      refine Xg.at_seq ?_
      refine Xg.at_seq ?_
      refine Xg.at_region ?_
      refine Xg.ops_op (by kernel_rfl) (Xg.opx_pure ((iv (↑i : Int))) rfl (fun _ => by kernel_rfl) ?_)
      refine Xg.ops_op (by kernel_rfl) (Xg.opx_pure ((Value.slice a n c)) rfl (fun _ => by kernel_rfl) ?_)
      refine Xg.ops_op (by kernel_rfl) (Xg.opx_pure ((iv (↑n : Int))) rfl (fun _ => by kernel_rfl) ?_)
      refine Xg.ops_op (by kernel_rfl) (Xg.opx_pure (.bool (decide ((((↑i : Int)) : Int) < ((↑n : Int))))) rfl (fun _ => by kernel_rfl) ?_)
      refine Xg.ops_nil ?_
      refine Xg.at_true (t := decide (((↑i : Int) < (↑n : Int)))) (by kernel_rfl) (decide_eq_true (by omega)) ?_
      refine Xg.at_skip ?_
      refine Xg.at_seq ?_
      refine Xg.at_block ?_
      refine Xg.at_seq ?_
      refine Xg.at_region ?_
      refine Xg.ops_op (by kernel_rfl) (Xg.opx_pure ((Value.slice a n c)) rfl (fun _ => by kernel_rfl) ?_)
      refine Xg.ops_op (by kernel_rfl) (Xg.opx_pure ((iv (↑i : Int))) rfl (fun _ => by kernel_rfl) ?_)
      refine Xg.ops_op (by kernel_rfl) (Xg.opx_rd 1 (.pointer (some (Addr.mk (Xg.blk a) (offA a + i) none))) rfl hR (by kernel_rfl) (Xg.run_ix_rd (elem := 3) (kd := .i64) (e := ((↑i : Int))) 1 i (offA a + i) (by kernel_rfl) (by kernel_rfl) (by kernel_rfl) (by kernel_rfl) rfl (by omega) (by simp only [List.length_map]; omega) (by omega)) ?_)
      refine Xg.ops_op (by kernel_rfl) (Xg.opx_rd 1 (iv (xs.getD i (0 : Int))) rfl hR (by kernel_rfl) (Xg.run_load_rd (off0 := (offA a + i)) i (by kernel_rfl) (by omega) (Xg.get_ints (by omega)) (by kernel_rfl)) ?_)
      refine Xg.ops_op (by kernel_rfl) (Xg.opx_callE' [] (fun xx3 => [SchedP xx2 (rw_ W) (List.replicate ((1 : Nat) + xx1) (-1 : Int)), A, ints (3 : TypeId) IntKind.i64 wa wc W]) (fun _ => by kernel_rfl) (@Go.Proofs.Ytijjficnhpokdaa.pick_d ((xs.getD i (0 : Int))) ((nat_lit 100)) (by omega) (by first | rfl | decide | (constructor <;> omega) | (simp; done) | (simp; omega))) (by kernel_rfl) (by kernel_rfl) (by kernel_rfl) fun xx3 xh3 => ?_)
      try dsimp only at xh3
      obtain ⟨xh3_0, xh3_1⟩ := xh3
      refine Xg.ops_op (by kernel_rfl) (Xg.opx_pure ((iv (↑xx3 : Int))) rfl (fun _ => by kernel_rfl) ?_)
      refine Xg.ops_nil ?_
      refine Xg.at_seq ?_
      refine Xg.at_region ?_
      refine Xg.ops_op (by kernel_rfl) (Xg.opx_pure ((iv (-1))) rfl (fun _ => by kernel_rfl) ?_)
      refine Xg.ops_nil ?_
      refine Xg.at_seq ?_
      refine Xg.at_seq ?_
      refine Xg.at_region ?_
      refine Xg.ops_op (by kernel_rfl) (Xg.opx_pure ((iv 0)) rfl (fun _ => by kernel_rfl) ?_)
      refine Xg.ops_nil ?_
      refine Xg.at_block ?_)
    have hlt3 : xx3 < 100 := by omega
    by_cases hA : at_ (xx3 : Int) (rw_ W) < 0
    · have hne := rw_neg W xx3 hA
      have hrm := kept_rem_no xx2 (1 + xx1) W xx3 hA
      (focus
        refine Xg.at_rounds_inv (α := (Nat) × (Nat → Value)) (fun x => ((fun k => k ≤ W.length) : (Nat) → Prop) x.1) (fun x => ((fun k => W.length - k) : (Nat) → Nat) x.1) (fun x => Xg.headT [iv slots0, Value.slice a n c, tu, tu, J (4 : Nat), Value.bool true, pv xx2 0, Value.slice wa W.length wc, iv (↑i : Int), iv (↑xx3 : Int), iv (-1), iv 0, J (12 : Nat), J (13 : Nat), J (14 : Nat), J (15 : Nat), J (16 : Nat), tu, tu, tu, tu, Value.bool true, iv slots0, iv (↑xx1 : Int), iv ((1 : Int) + (↑xx1 : Int)), pv xx2 0, Value.bool true, Value.bool false, Value.bool false, pv xx2 0, Value.bool false, Value.bool false, iv (↑i : Int), Value.slice a n c, iv (↑n : Int), Value.bool (decide ((↑i : Int) < (↑n : Int))), J (36 : Nat), J (37 : Nat), Value.slice a n c, iv (↑i : Int), Value.pointer (some (Addr.mk (blk a) (offA a + i) none)), iv (xs.getD i (0 : Int)), iv (↑xx3 : Int), J (43 : Nat), J (44 : Nat), J (45 : Nat), J (46 : Nat), J (47 : Nat), J (48 : Nat), J (49 : Nat), J (50 : Nat), J (51 : Nat), J (52 : Nat), J (53 : Nat), J (54 : Nat), J (55 : Nat), J (56 : Nat), J (57 : Nat), J (58 : Nat), J (59 : Nat), J (60 : Nat), J (61 : Nat), J (62 : Nat), J (63 : Nat), J (64 : Nat), J (65 : Nat), J (66 : Nat), J (67 : Nat), J (68 : Nat), J (69 : Nat), J (70 : Nat), J (71 : Nat), J (72 : Nat), J (73 : Nat), J (74 : Nat), J (75 : Nat), J (76 : Nat), J (77 : Nat), J (78 : Nat), J (79 : Nat), J (80 : Nat), J (81 : Nat), J (82 : Nat), J (83 : Nat), J (84 : Nat), J (85 : Nat), J (86 : Nat), J (87 : Nat), J (88 : Nat), J (89 : Nat), J (90 : Nat), J (91 : Nat), J (92 : Nat), J (93 : Nat), J (94 : Nat), J (95 : Nat), J (96 : Nat), J (97 : Nat), J (98 : Nat), J (99 : Nat), J (100 : Nat), J (101 : Nat), J (102 : Nat), J (103 : Nat), J (104 : Nat), J (105 : Nat), J (106 : Nat), J (107 : Nat), J (108 : Nat), J (109 : Nat), J (110 : Nat), tu, tu, tu, tu, tu, tu, tu, tu, tu, tu, tu, tu, tu, tu, tu] [43, 44, 45, 46, 47, 48, 49, 50, 51, 52, 53, 54, 55] (((fun k => [(11, .int .i64 (k : Nat)), (10, .int .i64 (-1))]) : (Nat) → List (Nat × Go.Value)) x.1) x.2) (fun x => ((fun k => [SchedP xx2 (rw_ W) (List.replicate (1 + xx1) (-1)), A, ints 3 .i64 wa wc W]) : (Nat) → List Go.Sl.HP) x.1) ((0), fun j => ([iv slots0, Value.slice a n c, tu, tu, J (4 : Nat), Value.bool true, pv xx2 0, Value.slice wa W.length wc, iv (↑i : Int), iv (↑xx3 : Int), iv (-1), iv 0, J (12 : Nat), J (13 : Nat), J (14 : Nat), J (15 : Nat), J (16 : Nat), tu, tu, tu, tu, Value.bool true, iv slots0, iv (↑xx1 : Int), iv ((1 : Int) + (↑xx1 : Int)), pv xx2 0, Value.bool true, Value.bool false, Value.bool false, pv xx2 0, Value.bool false, Value.bool false, iv (↑i : Int), Value.slice a n c, iv (↑n : Int), Value.bool (decide ((↑i : Int) < (↑n : Int))), J (36 : Nat), J (37 : Nat), Value.slice a n c, iv (↑i : Int), Value.pointer (some (Addr.mk (blk a) (offA a + i) none)), iv (xs.getD i (0 : Int)), iv (↑xx3 : Int), J (43 : Nat), J (44 : Nat), J (45 : Nat), J (46 : Nat), J (47 : Nat), J (48 : Nat), J (49 : Nat), J (50 : Nat), J (51 : Nat), J (52 : Nat), J (53 : Nat), J (54 : Nat), J (55 : Nat), J (56 : Nat), J (57 : Nat), J (58 : Nat), J (59 : Nat), J (60 : Nat), J (61 : Nat), J (62 : Nat), J (63 : Nat), J (64 : Nat), J (65 : Nat), J (66 : Nat), J (67 : Nat), J (68 : Nat), J (69 : Nat), J (70 : Nat), J (71 : Nat), J (72 : Nat), J (73 : Nat), J (74 : Nat), J (75 : Nat), J (76 : Nat), J (77 : Nat), J (78 : Nat), J (79 : Nat), J (80 : Nat), J (81 : Nat), J (82 : Nat), J (83 : Nat), J (84 : Nat), J (85 : Nat), J (86 : Nat), J (87 : Nat), J (88 : Nat), J (89 : Nat), J (90 : Nat), J (91 : Nat), J (92 : Nat), J (93 : Nat), J (94 : Nat), J (95 : Nat), J (96 : Nat), J (97 : Nat), J (98 : Nat), J (99 : Nat), J (100 : Nat), J (101 : Nat), J (102 : Nat), J (103 : Nat), J (104 : Nat), J (105 : Nat), J (106 : Nat), J (107 : Nat), J (108 : Nat), J (109 : Nat), J (110 : Nat), tu, tu, tu, tu, tu, tu, tu, tu, tu, tu, tu, tu, tu, tu, tu] : List Value).getD j undef) (by kernel_rfl) (by kernel_rfl) ?_ ?_)
      · exact Nat.zero_le _
      rintro ⟨k, J2⟩ hk ih2
      dsimp only at hk
      (focus
        refine Xg.At.same (T' := [iv slots0, Value.slice a n c, tu, tu, J (4 : Nat), Value.bool true, pv xx2 0, Value.slice wa W.length wc, iv (↑i : Int), iv (↑xx3 : Int), iv (-1), iv (↑k : Int), J (12 : Nat), J (13 : Nat), J (14 : Nat), J (15 : Nat), J (16 : Nat), tu, tu, tu, tu, Value.bool true, iv slots0, iv (↑xx1 : Int), iv ((1 : Int) + (↑xx1 : Int)), pv xx2 0, Value.bool true, Value.bool false, Value.bool false, pv xx2 0, Value.bool false, Value.bool false, iv (↑i : Int), Value.slice a n c, iv (↑n : Int), Value.bool (decide ((↑i : Int) < (↑n : Int))), J (36 : Nat), J (37 : Nat), Value.slice a n c, iv (↑i : Int), Value.pointer (some (Addr.mk (blk a) (offA a + i) none)), iv (xs.getD i (0 : Int)), iv (↑xx3 : Int), J2 43, J2 44, J2 45, J2 46, J2 47, J2 48, J2 49, J2 50, J2 51, J2 52, J2 53, J2 54, J2 55, J (56 : Nat), J (57 : Nat), J (58 : Nat), J (59 : Nat), J (60 : Nat), J (61 : Nat), J (62 : Nat), J (63 : Nat), J (64 : Nat), J (65 : Nat), J (66 : Nat), J (67 : Nat), J (68 : Nat), J (69 : Nat), J (70 : Nat), J (71 : Nat), J (72 : Nat), J (73 : Nat), J (74 : Nat), J (75 : Nat), J (76 : Nat), J (77 : Nat), J (78 : Nat), J (79 : Nat), J (80 : Nat), J (81 : Nat), J (82 : Nat), J (83 : Nat), J (84 : Nat), J (85 : Nat), J (86 : Nat), J (87 : Nat), J (88 : Nat), J (89 : Nat), J (90 : Nat), J (91 : Nat), J (92 : Nat), J (93 : Nat), J (94 : Nat), J (95 : Nat), J (96 : Nat), J (97 : Nat), J (98 : Nat), J (99 : Nat), J (100 : Nat), J (101 : Nat), J (102 : Nat), J (103 : Nat), J (104 : Nat), J (105 : Nat), J (106 : Nat), J (107 : Nat), J (108 : Nat), J (109 : Nat), J (110 : Nat), tu, tu, tu, tu, tu, tu, tu, tu, tu, tu, tu, tu, tu, tu, tu]) (L' := [SchedP xx2 (rw_ W) (List.replicate ((1 : Nat) + xx1) (-1 : Int)), A, ints (3 : TypeId) IntKind.i64 wa wc W]) (by kernel_rfl) rfl ?_)
      by_cases hlt2 : k < W.length
      · have hne1 := hne k hlt2
        (focus
          refine Xg.at_seq ?_
          refine Xg.at_seq ?_
          refine Xg.at_region ?_
          refine Xg.ops_op (by kernel_rfl) (Xg.opx_pure ((iv (↑k : Int))) rfl (fun _ => by kernel_rfl) ?_)
          refine Xg.ops_op (by kernel_rfl) (Xg.opx_pure ((Value.slice wa W.length wc)) rfl (fun _ => by kernel_rfl) ?_)
          refine Xg.ops_op (by kernel_rfl) (Xg.opx_pure ((iv (↑W.length : Int))) rfl (fun _ => by kernel_rfl) ?_)
          refine Xg.ops_op (by kernel_rfl) (Xg.opx_pure (.bool (decide ((((↑k : Int)) : Int) < ((↑W.length : Int))))) rfl (fun _ => by kernel_rfl) ?_)
          refine Xg.ops_nil ?_
          refine Xg.at_true (t := decide (((↑k : Int) < (↑W.length : Int)))) (by kernel_rfl) (decide_eq_true (by omega)) ?_
          refine Xg.at_skip ?_
          refine Xg.at_seq ?_
          refine Xg.at_block ?_
          refine Xg.at_seq ?_
          refine Xg.at_region ?_
          refine Xg.ops_op (by kernel_rfl) (Xg.opx_pure ((Value.slice wa W.length wc)) rfl (fun _ => by kernel_rfl) ?_)
          refine Xg.ops_op (by kernel_rfl) (Xg.opx_pure ((iv (↑k : Int))) rfl (fun _ => by kernel_rfl) ?_)
          refine Xg.ops_op (by kernel_rfl) (Xg.opx_ix_own (elem := 3) (kd := .i64) (e := ((↑k : Int))) 2 1 k k rfl (by kernel_rfl) (by kernel_rfl) (by kernel_rfl) (by kernel_rfl) rfl (by omega) (by omega) ?_)
          refine Xg.ops_op (by kernel_rfl) (Xg.opx_load_own (a := wa) (off := k) 2 (iv (W.getD k (0 : Int))) rfl (by kernel_rfl) (Xg.get_ints (by omega)) (by kernel_rfl) ?_)
          refine Xg.ops_op (by kernel_rfl) (Xg.opx_pure ((iv (↑xx3 : Int))) rfl (fun _ => by kernel_rfl) ?_)
          refine Xg.ops_op (by kernel_rfl) (Xg.opx_pure (.bool (decide (((W.getD k (0 : Int)) : Int) = ((↑xx3 : Int))))) rfl (fun _ => by kernel_rfl) ?_)
          refine Xg.ops_nil ?_
          refine Xg.at_false (t := decide ((W.getD k (0 : Int) = (↑xx3 : Int)))) (by kernel_rfl) (decide_eq_false (by omega)) ?_
          refine Xg.at_skip ?_
          refine Xg.at_inBlock ?_
          refine Xg.at_region ?_
          refine Xg.ops_op (by kernel_rfl) (Xg.opx_pure ((iv (↑k : Int))) rfl (fun _ => by kernel_rfl) ?_)
          refine Xg.ops_op (by kernel_rfl) (Xg.opx_int .i64 (IntKind.wrap .i64 (((↑k : Int) + (1 : Int)))) rfl (fun _ => by kernel_rfl) (Xg.wrap_i64_in (by omega)) ?_)
          refine Xg.ops_op (by kernel_rfl) (Xg.opx_pure ((iv ((↑k : Int) + (1 : Int)))) rfl (fun _ => by kernel_rfl) ?_)
          refine Xg.ops_nil ?_
          refine Xg.at_inLoop ?_)
        (focus
          refine Xg.at_keep [0, 1, 2] (by kernel_rfl) ?_
          refine Xs.same ?_ (fun J9 => ih2 (((k + 1)), J9) ?_ ?_) (by kernel_rfl))
        · rfl
        · dsimp only; omega
        · dsimp only; omega
      · clear ih2
        by_cases hfull : W.length < 64
        · have hadd := kept_add_no xx2 (1 + xx1) W xx3 hfull (by omega) hA
          have hWn := hW.add xx3 (by omega) hfull hne
          (focus
            refine Xg.at_seq ?_
            refine Xg.at_seq ?_
            refine Xg.at_region ?_
            refine Xg.ops_op (by kernel_rfl) (Xg.opx_pure ((iv (↑k : Int))) rfl (fun _ => by kernel_rfl) ?_)
            refine Xg.ops_op (by kernel_rfl) (Xg.opx_pure ((Value.slice wa W.length wc)) rfl (fun _ => by kernel_rfl) ?_)
            refine Xg.ops_op (by kernel_rfl) (Xg.opx_pure ((iv (↑W.length : Int))) rfl (fun _ => by kernel_rfl) ?_)
            refine Xg.ops_op (by kernel_rfl) (Xg.opx_pure (.bool (decide ((((↑k : Int)) : Int) < ((↑W.length : Int))))) rfl (fun _ => by kernel_rfl) ?_)
            refine Xg.ops_nil ?_
            refine Xg.at_false (t := decide (((↑k : Int) < (↑W.length : Int)))) (by kernel_rfl) (decide_eq_false (by omega)) ?_
            refine Xg.at_exit rfl ?_
            refine Xg.at_seq ?_
            refine Xg.at_seq ?_
            refine Xg.at_region ?_
            refine Xg.ops_op (by kernel_rfl) (Xg.opx_pure ((iv (-1))) rfl (fun _ => by kernel_rfl) ?_)
            refine Xg.ops_op (by kernel_rfl) (Xg.opx_pure ((Value.bool false)) rfl (fun _ => by kernel_rfl) ?_)
            refine Xg.ops_nil ?_
            refine Xg.at_false (t := false) (by kernel_rfl) rfl ?_
            refine Xg.at_skip ?_
            refine Xg.at_seq ?_
            refine Xg.at_region ?_
            refine Xg.ops_op (by kernel_rfl) (Xg.opx_pure ((pv xx2 0)) rfl (fun _ => by kernel_rfl) ?_)
            refine Xg.ops_op (by kernel_rfl) (Xg.opx_pure ((iv (↑xx3 : Int))) rfl (fun _ => by kernel_rfl) ?_)
            refine Xg.ops_op (by kernel_rfl) (Xg.opx_call1' [0] [SchedP xx2 (rw_ W) (List.replicate ((1 : Nat) + xx1) (-1 : Int)), A, ints (3 : TypeId) IntKind.i64 wa wc W] (fun _ => by kernel_rfl) (@hrm ) (by kernel_rfl) (by kernel_rfl) (by kernel_rfl) ?_)
            refine Xg.ops_op (by kernel_rfl) (Xg.opx_pure ((iv 132)) rfl (fun _ => by kernel_rfl) ?_)
            refine Xg.ops_nil ?_
            refine Xg.at_seq ?_
            refine Xg.at_region ?_
            refine Xg.ops_op (by kernel_rfl) (Xg.opx_pure ((pv xx2 0)) rfl (fun _ => by kernel_rfl) ?_)
            refine Xg.ops_op (by kernel_rfl) (Xg.opx_pure ((iv (↑xx3 : Int))) rfl (fun _ => by kernel_rfl) ?_)
            refine Xg.ops_op (by kernel_rfl) (Xg.opx_call1' [0] [SchedP xx2 (rw_ (W ++ [(↑xx3 : Int)])) (List.replicate ((1 : Nat) + xx1) (-1 : Int)), A, ints (3 : TypeId) IntKind.i64 wa wc W] (fun _ => by kernel_rfl) (@hadd ) (by kernel_rfl) (by kernel_rfl) (by kernel_rfl) ?_)
            refine Xg.ops_op (by kernel_rfl) (Xg.opx_pure ((iv 0)) rfl (fun _ => by kernel_rfl) ?_)
            refine Xg.ops_nil ?_
            refine Xg.at_seq ?_
            refine Xg.at_seq ?_
            refine Xg.at_region ?_
            refine Xg.ops_op (by kernel_rfl) (Xg.opx_pure ((iv 132)) rfl (fun _ => by kernel_rfl) ?_)
            refine Xg.ops_op (by kernel_rfl) (Xg.opx_pure ((Value.bool false)) rfl (fun _ => by kernel_rfl) ?_)
            refine Xg.ops_op (by kernel_rfl) (Xg.opx_pure ((Value.bool false)) rfl (fun _ => by kernel_rfl) ?_)
            refine Xg.ops_op (by kernel_rfl) (Xg.opx_pure ((iv 0)) rfl (fun _ => by kernel_rfl) ?_)
            refine Xg.ops_op (by kernel_rfl) (Xg.opx_pure ((Value.bool true)) rfl (fun _ => by kernel_rfl) ?_)
            refine Xg.ops_op (by kernel_rfl) (Xg.opx_pure ((Value.slice wa W.length wc)) rfl (fun _ => by kernel_rfl) ?_)
            refine Xg.ops_op (by kernel_rfl) (Xg.opx_pure ((iv (↑W.length : Int))) rfl (fun _ => by kernel_rfl) ?_)
            refine Xg.ops_op (by kernel_rfl) (Xg.opx_pure (.bool (decide ((((↑W.length : Int)) : Int) < ((64 : Int))))) rfl (fun _ => by kernel_rfl) ?_)
            refine Xg.ops_op (by kernel_rfl) (Xg.opx_eq (v := ((Value.bool !true == decide ((↑W.length : Int) < (64 : Int))))) (.bool (!(decide ((↑W.length : Int) < (64 : Int))))) rfl (fun _ => by kernel_rfl) (by generalize ((decide ((↑W.length : Int) < (64 : Int))) : Bool) = bb; cases bb <;> rfl) ?_)
            refine Xg.ops_flag (j := 95) (c := (!decide ((↑W.length : Int) < (64 : Int)))) (by kernel_rfl) (fun xh4 => absurd xh4 (by rw [decide_eq_true (p := ((↑W.length : Int) < (64 : Int))) (by omega)]; decide)) (fun _ => ?_)
            refine Xg.ops_op (by kernel_rfl) (Xg.opx_pure ((Value.bool false)) rfl (fun _ => by kernel_rfl) ?_)
            refine Xg.ops_op (by kernel_rfl) (Xg.opx_pure ((Value.bool false)) rfl (fun _ => by kernel_rfl) ?_)
            refine Xg.ops_op (by kernel_rfl) (Xg.opx_pure ((iv 0)) rfl (fun _ => by kernel_rfl) ?_)
            refine Xg.ops_op (by kernel_rfl) (Xg.opx_pure ((Value.bool false)) rfl (fun _ => by kernel_rfl) ?_)
            refine Xg.ops_op (by kernel_rfl) (Xg.opx_pure ((Value.bool false)) rfl (fun _ => by kernel_rfl) ?_)
            refine Xg.ops_skip (by kernel_rfl) ?_
            refine Xg.ops_skip (by kernel_rfl) ?_
            refine Xg.ops_op (by kernel_rfl) (Xg.opx_pure ((Value.bool false)) rfl (fun _ => by kernel_rfl) ?_)
            refine Xg.ops_op (by kernel_rfl) (Xg.opx_pure ((Value.bool false)) rfl (fun _ => by kernel_rfl) ?_)
            refine Xg.ops_nil ?_
            refine Xg.at_false (t := false) (by kernel_rfl) rfl ?_
            refine Xg.at_skip ?_
            refine Xg.at_seq ?_
            refine Xg.at_region ?_
            refine Xg.ops_op (by kernel_rfl) (Xg.opx_pure ((iv 0)) rfl (fun _ => by kernel_rfl) ?_)
            refine Xg.ops_op (by kernel_rfl) (Xg.opx_pure ((Value.bool true)) rfl (fun _ => by kernel_rfl) ?_)
            refine Xg.ops_nil ?_
            refine Xg.at_true (t := true) (by kernel_rfl) rfl ?_
            refine Xg.at_region ?_
            refine Xg.ops_op (by kernel_rfl) (Xg.opx_pure ((Value.slice wa W.length wc)) rfl (fun _ => by kernel_rfl) ?_)
            refine Xg.ops_op (by kernel_rfl) (Xg.opx_pure ((iv (↑xx3 : Int))) rfl (fun _ => by kernel_rfl) ?_)
            refine Xg.ops_op (by kernel_rfl) (Xg.opx_bs (elem := 3) 1 [iv (↑xx3 : Int)] [iv (↑xx3 : Int)] (by kernel_rfl) (by kernel_rfl) (by decide) rfl (by kernel_rfl) (by kernel_rfl) (by kernel_rfl) (by kernel_rfl) fun xb1 => ?_)
            refine Xg.ops_op (by kernel_rfl) (Xg.opx_append_ints (kd := .i64) (yv := (Value.slice (some (Addr.mk xb1 (0 : Nat) none)) (1 : Nat) (1 : Nat))) (m := ((1 : Nat))) (xs := W) (elem := 3) 3 8 [(↑xx3 : Int)] rfl (by kernel_rfl) (by kernel_rfl) (by kernel_rfl) (by kernel_rfl) (by first | rfl | assumption | omega | (simp; done) | (simp; omega)) (fun _ hS => Xg.row_rd hS 0 rfl (by kernel_rfl)) (by first | omega | (simp only [List.length_nil, List.length_cons]; omega) | (simp; omega)) (by first | omega | (simp only [List.length_nil, List.length_cons]; omega) | (simp; omega)) fun xa1 xc1 => ?_)
            have xl1 : (W ++ [(↑xx3 : Int)] : List Int).length = (W : List Int).length + ((1 : Nat)) := by first | (simp; done) | (simp; omega)
            refine Xg.ops_op (by kernel_rfl) (Xg.opx_pure ((Value.slice xa1 (W ++ [(↑xx3 : Int)]).length xc1)) rfl (fun _ => by kernel_rfl) ?_)
            refine Xg.ops_nil ?_
            refine Xg.at_inBlock ?_
            refine Xg.at_region ?_
            refine Xg.ops_op (by kernel_rfl) (Xg.opx_pure ((iv (↑i : Int))) rfl (fun _ => by kernel_rfl) ?_)
            refine Xg.ops_op (by kernel_rfl) (Xg.opx_int .i64 (IntKind.wrap .i64 (((↑i : Int) + (1 : Int)))) rfl (fun _ => by kernel_rfl) (Xg.wrap_i64_in (by omega)) ?_)
            refine Xg.ops_op (by kernel_rfl) (Xg.opx_pure ((iv ((↑i : Int) + (1 : Int)))) rfl (fun _ => by kernel_rfl) ?_)
            refine Xg.ops_nil ?_
            refine Xg.at_inLoop ?_)
          (focus
            refine Xg.at_keep [1, 2, 3] (by kernel_rfl) ?_
            refine Xs.same ?_ (fun J9 => ih (((i + 1, W ++ [(xx3 : Int)], xa1, xc1)), J9) ?_ ?_) (by kernel_rfl))
          · rfl
          · exact ⟨by dsimp only; omega, hWn⟩
          · dsimp only; omega
        · have hadd := kept_add_full xx2 (1 + xx1) W xx3 (by omega) (by omega) hA
          (focus
            refine Xg.at_seq ?_
            refine Xg.at_seq ?_
            refine Xg.at_region ?_
            refine Xg.ops_op (by kernel_rfl) (Xg.opx_pure ((iv (↑k : Int))) rfl (fun _ => by kernel_rfl) ?_)
            refine Xg.ops_op (by kernel_rfl) (Xg.opx_pure ((Value.slice wa W.length wc)) rfl (fun _ => by kernel_rfl) ?_)
            refine Xg.ops_op (by kernel_rfl) (Xg.opx_pure ((iv (↑W.length : Int))) rfl (fun _ => by kernel_rfl) ?_)
            refine Xg.ops_op (by kernel_rfl) (Xg.opx_pure (.bool (decide ((((↑k : Int)) : Int) < ((↑W.length : Int))))) rfl (fun _ => by kernel_rfl) ?_)
            refine Xg.ops_nil ?_
            refine Xg.at_false (t := decide (((↑k : Int) < (↑W.length : Int)))) (by kernel_rfl) (decide_eq_false (by omega)) ?_
            refine Xg.at_exit rfl ?_
            refine Xg.at_seq ?_
            refine Xg.at_seq ?_
            refine Xg.at_region ?_
            refine Xg.ops_op (by kernel_rfl) (Xg.opx_pure ((iv (-1))) rfl (fun _ => by kernel_rfl) ?_)
            refine Xg.ops_op (by kernel_rfl) (Xg.opx_pure ((Value.bool false)) rfl (fun _ => by kernel_rfl) ?_)
            refine Xg.ops_nil ?_
            refine Xg.at_false (t := false) (by kernel_rfl) rfl ?_
            refine Xg.at_skip ?_
            refine Xg.at_seq ?_
            refine Xg.at_region ?_
            refine Xg.ops_op (by kernel_rfl) (Xg.opx_pure ((pv xx2 0)) rfl (fun _ => by kernel_rfl) ?_)
            refine Xg.ops_op (by kernel_rfl) (Xg.opx_pure ((iv (↑xx3 : Int))) rfl (fun _ => by kernel_rfl) ?_)
            refine Xg.ops_op (by kernel_rfl) (Xg.opx_call1' [0] [SchedP xx2 (rw_ W) (List.replicate ((1 : Nat) + xx1) (-1 : Int)), A, ints (3 : TypeId) IntKind.i64 wa wc W] (fun _ => by kernel_rfl) (@hrm ) (by kernel_rfl) (by kernel_rfl) (by kernel_rfl) ?_)
            refine Xg.ops_op (by kernel_rfl) (Xg.opx_pure ((iv 132)) rfl (fun _ => by kernel_rfl) ?_)
            refine Xg.ops_nil ?_
            refine Xg.at_seq ?_
            refine Xg.at_region ?_
            refine Xg.ops_op (by kernel_rfl) (Xg.opx_pure ((pv xx2 0)) rfl (fun _ => by kernel_rfl) ?_)
            refine Xg.ops_op (by kernel_rfl) (Xg.opx_pure ((iv (↑xx3 : Int))) rfl (fun _ => by kernel_rfl) ?_)
            refine Xg.ops_op (by kernel_rfl) (Xg.opx_call1' [0] [SchedP xx2 (rw_ W) (List.replicate ((1 : Nat) + xx1) (-1 : Int)), A, ints (3 : TypeId) IntKind.i64 wa wc W] (fun _ => by kernel_rfl) (@hadd ) (by kernel_rfl) (by kernel_rfl) (by kernel_rfl) ?_)
            refine Xg.ops_op (by kernel_rfl) (Xg.opx_pure ((iv 133)) rfl (fun _ => by kernel_rfl) ?_)
            refine Xg.ops_nil ?_
            refine Xg.at_seq ?_
            refine Xg.at_seq ?_
            refine Xg.at_region ?_
            refine Xg.ops_op (by kernel_rfl) (Xg.opx_pure ((iv 132)) rfl (fun _ => by kernel_rfl) ?_)
            refine Xg.ops_op (by kernel_rfl) (Xg.opx_pure ((Value.bool false)) rfl (fun _ => by kernel_rfl) ?_)
            refine Xg.ops_op (by kernel_rfl) (Xg.opx_pure ((Value.bool false)) rfl (fun _ => by kernel_rfl) ?_)
            refine Xg.ops_op (by kernel_rfl) (Xg.opx_pure ((iv 133)) rfl (fun _ => by kernel_rfl) ?_)
            refine Xg.ops_op (by kernel_rfl) (Xg.opx_pure ((Value.bool false)) rfl (fun _ => by kernel_rfl) ?_)
            refine Xg.ops_op (by kernel_rfl) (Xg.opx_pure ((Value.slice wa W.length wc)) rfl (fun _ => by kernel_rfl) ?_)
            refine Xg.ops_op (by kernel_rfl) (Xg.opx_pure ((iv (↑W.length : Int))) rfl (fun _ => by kernel_rfl) ?_)
            refine Xg.ops_op (by kernel_rfl) (Xg.opx_pure (.bool (decide ((((↑W.length : Int)) : Int) < ((64 : Int))))) rfl (fun _ => by kernel_rfl) ?_)
            refine Xg.ops_op (by kernel_rfl) (Xg.opx_eq (v := ((Value.bool !false == decide ((↑W.length : Int) < (64 : Int))))) (.bool (decide ((↑W.length : Int) < (64 : Int)))) rfl (fun _ => by kernel_rfl) (by generalize ((decide ((↑W.length : Int) < (64 : Int))) : Bool) = bb; cases bb <;> rfl) ?_)
            refine Xg.ops_flag (j := 95) (c := (decide ((↑W.length : Int) < (64 : Int)))) (by kernel_rfl) (fun xh4 => absurd (of_decide_eq_true xh4) (by omega)) (fun _ => ?_)
            refine Xg.ops_op (by kernel_rfl) (Xg.opx_pure ((Value.bool false)) rfl (fun _ => by kernel_rfl) ?_)
            refine Xg.ops_op (by kernel_rfl) (Xg.opx_pure ((Value.bool false)) rfl (fun _ => by kernel_rfl) ?_)
            refine Xg.ops_op (by kernel_rfl) (Xg.opx_pure ((iv 133)) rfl (fun _ => by kernel_rfl) ?_)
            refine Xg.ops_op (by kernel_rfl) (Xg.opx_pure ((Value.bool true)) rfl (fun _ => by kernel_rfl) ?_)
            refine Xg.ops_op (by kernel_rfl) (Xg.opx_pure ((Value.bool true)) rfl (fun _ => by kernel_rfl) ?_)
            refine Xg.ops_op (by kernel_rfl) (Xg.opx_pure ((iv 133)) rfl (fun _ => by kernel_rfl) ?_)
            refine Xg.ops_op (by kernel_rfl) (Xg.opx_pure ((Value.bool false)) rfl (fun _ => by kernel_rfl) ?_)
            refine Xg.ops_op (by kernel_rfl) (Xg.opx_pure ((Value.bool false)) rfl (fun _ => by kernel_rfl) ?_)
            refine Xg.ops_op (by kernel_rfl) (Xg.opx_pure ((Value.bool false)) rfl (fun _ => by kernel_rfl) ?_)
            refine Xg.ops_nil ?_
            refine Xg.at_false (t := false) (by kernel_rfl) rfl ?_
            refine Xg.at_skip ?_
            refine Xg.at_seq ?_
            refine Xg.at_region ?_
            refine Xg.ops_op (by kernel_rfl) (Xg.opx_pure ((iv 133)) rfl (fun _ => by kernel_rfl) ?_)
            refine Xg.ops_op (by kernel_rfl) (Xg.opx_pure ((Value.bool false)) rfl (fun _ => by kernel_rfl) ?_)
            refine Xg.ops_nil ?_
            refine Xg.at_false (t := false) (by kernel_rfl) rfl ?_
            refine Xg.at_skip ?_
            refine Xg.at_inBlock ?_
            refine Xg.at_region ?_
            refine Xg.ops_op (by kernel_rfl) (Xg.opx_pure ((iv (↑i : Int))) rfl (fun _ => by kernel_rfl) ?_)
            refine Xg.ops_op (by kernel_rfl) (Xg.opx_int .i64 (IntKind.wrap .i64 (((↑i : Int) + (1 : Int)))) rfl (fun _ => by kernel_rfl) (Xg.wrap_i64_in (by omega)) ?_)
            refine Xg.ops_op (by kernel_rfl) (Xg.opx_pure ((iv ((↑i : Int) + (1 : Int)))) rfl (fun _ => by kernel_rfl) ?_)
            refine Xg.ops_nil ?_
            refine Xg.at_inLoop ?_)
          (focus
            refine Xg.at_keep [0, 1, 2] (by kernel_rfl) ?_
            refine Xs.same ?_ (fun J9 => ih (((i + 1, W, wa, wc)), J9) ?_ ?_) (by kernel_rfl))
          · rfl
          · exact ⟨by dsimp only; omega, hW⟩
          · dsimp only; omega
    · obtain ⟨q, hq⟩ : ∃ q : Nat, at_ (xx3 : Int) (rw_ W) = q := ⟨(at_ (xx3 : Int) (rw_ W)).toNat, by omega⟩
      obtain ⟨hq1, hq2⟩ := rw_pos W xx3 q hq
      have hadd := kept_add_has xx2 (1 + xx1) W xx3 h64 q (by omega) hq
      have hrm := kept_rem_has xx2 (1 + xx1) W xx3 q hq
      have hWn := hW.erase q
      (focus
        refine Xg.at_rounds_inv (α := (Nat × Int) × (Nat → Value)) (fun x => ((fun x => x.1 ≤ W.length ∧ (x.1 ≤ q → x.2 = -1) ∧ (q < x.1 → x.2 = q)) : (Nat × Int) → Prop) x.1) (fun x => ((fun x => W.length - x.1) : (Nat × Int) → Nat) x.1) (fun x => Xg.headT [iv slots0, Value.slice a n c, tu, tu, J (4 : Nat), Value.bool true, pv xx2 0, Value.slice wa W.length wc, iv (↑i : Int), iv (↑xx3 : Int), iv (-1), iv 0, J (12 : Nat), J (13 : Nat), J (14 : Nat), J (15 : Nat), J (16 : Nat), tu, tu, tu, tu, Value.bool true, iv slots0, iv (↑xx1 : Int), iv ((1 : Int) + (↑xx1 : Int)), pv xx2 0, Value.bool true, Value.bool false, Value.bool false, pv xx2 0, Value.bool false, Value.bool false, iv (↑i : Int), Value.slice a n c, iv (↑n : Int), Value.bool (decide ((↑i : Int) < (↑n : Int))), J (36 : Nat), J (37 : Nat), Value.slice a n c, iv (↑i : Int), Value.pointer (some (Addr.mk (blk a) (offA a + i) none)), iv (xs.getD i (0 : Int)), iv (↑xx3 : Int), J (43 : Nat), J (44 : Nat), J (45 : Nat), J (46 : Nat), J (47 : Nat), J (48 : Nat), J (49 : Nat), J (50 : Nat), J (51 : Nat), J (52 : Nat), J (53 : Nat), J (54 : Nat), J (55 : Nat), J (56 : Nat), J (57 : Nat), J (58 : Nat), J (59 : Nat), J (60 : Nat), J (61 : Nat), J (62 : Nat), J (63 : Nat), J (64 : Nat), J (65 : Nat), J (66 : Nat), J (67 : Nat), J (68 : Nat), J (69 : Nat), J (70 : Nat), J (71 : Nat), J (72 : Nat), J (73 : Nat), J (74 : Nat), J (75 : Nat), J (76 : Nat), J (77 : Nat), J (78 : Nat), J (79 : Nat), J (80 : Nat), J (81 : Nat), J (82 : Nat), J (83 : Nat), J (84 : Nat), J (85 : Nat), J (86 : Nat), J (87 : Nat), J (88 : Nat), J (89 : Nat), J (90 : Nat), J (91 : Nat), J (92 : Nat), J (93 : Nat), J (94 : Nat), J (95 : Nat), J (96 : Nat), J (97 : Nat), J (98 : Nat), J (99 : Nat), J (100 : Nat), J (101 : Nat), J (102 : Nat), J (103 : Nat), J (104 : Nat), J (105 : Nat), J (106 : Nat), J (107 : Nat), J (108 : Nat), J (109 : Nat), J (110 : Nat), tu, tu, tu, tu, tu, tu, tu, tu, tu, tu, tu, tu, tu, tu, tu] [43, 44, 45, 46, 47, 48, 49, 50, 51, 52, 53, 54, 55] (((fun x => [(11, .int .i64 (x.1 : Nat)), (10, .int .i64 x.2)]) : (Nat × Int) → List (Nat × Go.Value)) x.1) x.2) (fun x => ((fun k => [SchedP xx2 (rw_ W) (List.replicate (1 + xx1) (-1)), A, ints 3 .i64 wa wc W]) : (Nat × Int) → List Go.Sl.HP) x.1) (((0, -1)), fun j => ([iv slots0, Value.slice a n c, tu, tu, J (4 : Nat), Value.bool true, pv xx2 0, Value.slice wa W.length wc, iv (↑i : Int), iv (↑xx3 : Int), iv (-1), iv 0, J (12 : Nat), J (13 : Nat), J (14 : Nat), J (15 : Nat), J (16 : Nat), tu, tu, tu, tu, Value.bool true, iv slots0, iv (↑xx1 : Int), iv ((1 : Int) + (↑xx1 : Int)), pv xx2 0, Value.bool true, Value.bool false, Value.bool false, pv xx2 0, Value.bool false, Value.bool false, iv (↑i : Int), Value.slice a n c, iv (↑n : Int), Value.bool (decide ((↑i : Int) < (↑n : Int))), J (36 : Nat), J (37 : Nat), Value.slice a n c, iv (↑i : Int), Value.pointer (some (Addr.mk (blk a) (offA a + i) none)), iv (xs.getD i (0 : Int)), iv (↑xx3 : Int), J (43 : Nat), J (44 : Nat), J (45 : Nat), J (46 : Nat), J (47 : Nat), J (48 : Nat), J (49 : Nat), J (50 : Nat), J (51 : Nat), J (52 : Nat), J (53 : Nat), J (54 : Nat), J (55 : Nat), J (56 : Nat), J (57 : Nat), J (58 : Nat), J (59 : Nat), J (60 : Nat), J (61 : Nat), J (62 : Nat), J (63 : Nat), J (64 : Nat), J (65 : Nat), J (66 : Nat), J (67 : Nat), J (68 : Nat), J (69 : Nat), J (70 : Nat), J (71 : Nat), J (72 : Nat), J (73 : Nat), J (74 : Nat), J (75 : Nat), J (76 : Nat), J (77 : Nat), J (78 : Nat), J (79 : Nat), J (80 : Nat), J (81 : Nat), J (82 : Nat), J (83 : Nat), J (84 : Nat), J (85 : Nat), J (86 : Nat), J (87 : Nat), J (88 : Nat), J (89 : Nat), J (90 : Nat), J (91 : Nat), J (92 : Nat), J (93 : Nat), J (94 : Nat), J (95 : Nat), J (96 : Nat), J (97 : Nat), J (98 : Nat), J (99 : Nat), J (100 : Nat), J (101 : Nat), J (102 : Nat), J (103 : Nat), J (104 : Nat), J (105 : Nat), J (106 : Nat), J (107 : Nat), J (108 : Nat), J (109 : Nat), J (110 : Nat), tu, tu, tu, tu, tu, tu, tu, tu, tu, tu, tu, tu, tu, tu, tu] : List Value).getD j undef) (by kernel_rfl) (by kernel_rfl) ?_ ?_)
      · exact ⟨Nat.zero_le _, fun _ => rfl, fun h => absurd h (Nat.not_lt_zero _)⟩
      rintro ⟨⟨k, at1⟩, J2⟩ ⟨hk, hk1, hk2⟩ ih2
      dsimp only at hk hk1 hk2
      (focus
        refine Xg.At.same (T' := [iv slots0, Value.slice a n c, tu, tu, J (4 : Nat), Value.bool true, pv xx2 0, Value.slice wa W.length wc, iv (↑i : Int), iv (↑xx3 : Int), iv at1, iv (↑k : Int), J (12 : Nat), J (13 : Nat), J (14 : Nat), J (15 : Nat), J (16 : Nat), tu, tu, tu, tu, Value.bool true, iv slots0, iv (↑xx1 : Int), iv ((1 : Int) + (↑xx1 : Int)), pv xx2 0, Value.bool true, Value.bool false, Value.bool false, pv xx2 0, Value.bool false, Value.bool false, iv (↑i : Int), Value.slice a n c, iv (↑n : Int), Value.bool (decide ((↑i : Int) < (↑n : Int))), J (36 : Nat), J (37 : Nat), Value.slice a n c, iv (↑i : Int), Value.pointer (some (Addr.mk (blk a) (offA a + i) none)), iv (xs.getD i (0 : Int)), iv (↑xx3 : Int), J2 43, J2 44, J2 45, J2 46, J2 47, J2 48, J2 49, J2 50, J2 51, J2 52, J2 53, J2 54, J2 55, J (56 : Nat), J (57 : Nat), J (58 : Nat), J (59 : Nat), J (60 : Nat), J (61 : Nat), J (62 : Nat), J (63 : Nat), J (64 : Nat), J (65 : Nat), J (66 : Nat), J (67 : Nat), J (68 : Nat), J (69 : Nat), J (70 : Nat), J (71 : Nat), J (72 : Nat), J (73 : Nat), J (74 : Nat), J (75 : Nat), J (76 : Nat), J (77 : Nat), J (78 : Nat), J (79 : Nat), J (80 : Nat), J (81 : Nat), J (82 : Nat), J (83 : Nat), J (84 : Nat), J (85 : Nat), J (86 : Nat), J (87 : Nat), J (88 : Nat), J (89 : Nat), J (90 : Nat), J (91 : Nat), J (92 : Nat), J (93 : Nat), J (94 : Nat), J (95 : Nat), J (96 : Nat), J (97 : Nat), J (98 : Nat), J (99 : Nat), J (100 : Nat), J (101 : Nat), J (102 : Nat), J (103 : Nat), J (104 : Nat), J (105 : Nat), J (106 : Nat), J (107 : Nat), J (108 : Nat), J (109 : Nat), J (110 : Nat), tu, tu, tu, tu, tu, tu, tu, tu, tu, tu, tu, tu, tu, tu, tu]) (L' := [SchedP xx2 (rw_ W) (List.replicate ((1 : Nat) + xx1) (-1 : Int)), A, ints (3 : TypeId) IntKind.i64 wa wc W]) (by kernel_rfl) rfl ?_)
      by_cases hlt2 : k < W.length
      · by_cases hkq : k = q
        · subst hkq
          (focus
            refine Xg.at_seq ?_
            refine Xg.at_seq ?_
            refine Xg.at_region ?_
            refine Xg.ops_op (by kernel_rfl) (Xg.opx_pure ((iv (↑k : Int))) rfl (fun _ => by kernel_rfl) ?_)
            refine Xg.ops_op (by kernel_rfl) (Xg.opx_pure ((Value.slice wa W.length wc)) rfl (fun _ => by kernel_rfl) ?_)
            refine Xg.ops_op (by kernel_rfl) (Xg.opx_pure ((iv (↑W.length : Int))) rfl (fun _ => by kernel_rfl) ?_)
            refine Xg.ops_op (by kernel_rfl) (Xg.opx_pure (.bool (decide ((((↑k : Int)) : Int) < ((↑W.length : Int))))) rfl (fun _ => by kernel_rfl) ?_)
            refine Xg.ops_nil ?_
            refine Xg.at_true (t := decide (((↑k : Int) < (↑W.length : Int)))) (by kernel_rfl) (decide_eq_true (by omega)) ?_
            refine Xg.at_skip ?_
            refine Xg.at_seq ?_
            refine Xg.at_block ?_
            refine Xg.at_seq ?_
            refine Xg.at_region ?_
            refine Xg.ops_op (by kernel_rfl) (Xg.opx_pure ((Value.slice wa W.length wc)) rfl (fun _ => by kernel_rfl) ?_)
            refine Xg.ops_op (by kernel_rfl) (Xg.opx_pure ((iv (↑k : Int))) rfl (fun _ => by kernel_rfl) ?_)
            refine Xg.ops_op (by kernel_rfl) (Xg.opx_ix_own (elem := 3) (kd := .i64) (e := ((↑k : Int))) 2 1 k k rfl (by kernel_rfl) (by kernel_rfl) (by kernel_rfl) (by kernel_rfl) rfl (by omega) (by omega) ?_)
            refine Xg.ops_op (by kernel_rfl) (Xg.opx_load_own (a := wa) (off := k) 2 (iv (W.getD k (0 : Int))) rfl (by kernel_rfl) (Xg.get_ints (by omega)) (by kernel_rfl) ?_)
            refine Xg.ops_op (by kernel_rfl) (Xg.opx_pure ((iv (↑xx3 : Int))) rfl (fun _ => by kernel_rfl) ?_)
            refine Xg.ops_op (by kernel_rfl) (Xg.opx_pure (.bool (decide (((W.getD k (0 : Int)) : Int) = ((↑xx3 : Int))))) rfl (fun _ => by kernel_rfl) ?_)
            refine Xg.ops_nil ?_
            refine Xg.at_true (t := decide ((W.getD k (0 : Int) = (↑xx3 : Int)))) (by kernel_rfl) (decide_eq_true (by omega)) ?_
            refine Xg.at_region ?_
            refine Xg.ops_op (by kernel_rfl) (Xg.opx_pure ((iv (↑k : Int))) rfl (fun _ => by kernel_rfl) ?_)
            refine Xg.ops_op (by kernel_rfl) (Xg.opx_pure ((iv (↑k : Int))) rfl (fun _ => by kernel_rfl) ?_)
            refine Xg.ops_nil ?_
            refine Xg.at_inBlock ?_
            refine Xg.at_region ?_
            refine Xg.ops_op (by kernel_rfl) (Xg.opx_pure ((iv (↑k : Int))) rfl (fun _ => by kernel_rfl) ?_)
            refine Xg.ops_op (by kernel_rfl) (Xg.opx_int .i64 (IntKind.wrap .i64 (((↑k : Int) + (1 : Int)))) rfl (fun _ => by kernel_rfl) (Xg.wrap_i64_in (by omega)) ?_)
            refine Xg.ops_op (by kernel_rfl) (Xg.opx_pure ((iv ((↑k : Int) + (1 : Int)))) rfl (fun _ => by kernel_rfl) ?_)
            refine Xg.ops_nil ?_
            refine Xg.at_inLoop ?_)
          (focus
            refine Xg.at_keep [0, 1, 2] (by kernel_rfl) ?_
            refine Xs.same ?_ (fun J9 => ih2 (((k + 1, (k : Int))), J9) ?_ ?_) (by kernel_rfl))
          · rfl
          · exact ⟨by dsimp only; omega, fun h => by dsimp only at h; omega, fun _ => rfl⟩
          · dsimp only; omega
        · have hne1 : W.getD k 0 ≠ xx3 := fun e => hkq (hW.one hlt2 hq1 (e.trans hq2.symm))
          (focus
            refine Xg.at_seq ?_
            refine Xg.at_seq ?_
            refine Xg.at_region ?_
            refine Xg.ops_op (by kernel_rfl) (Xg.opx_pure ((iv (↑k : Int))) rfl (fun _ => by kernel_rfl) ?_)
            refine Xg.ops_op (by kernel_rfl) (Xg.opx_pure ((Value.slice wa W.length wc)) rfl (fun _ => by kernel_rfl) ?_)
            refine Xg.ops_op (by kernel_rfl) (Xg.opx_pure ((iv (↑W.length : Int))) rfl (fun _ => by kernel_rfl) ?_)
            refine Xg.ops_op (by kernel_rfl) (Xg.opx_pure (.bool (decide ((((↑k : Int)) : Int) < ((↑W.length : Int))))) rfl (fun _ => by kernel_rfl) ?_)
            refine Xg.ops_nil ?_
            refine Xg.at_true (t := decide (((↑k : Int) < (↑W.length : Int)))) (by kernel_rfl) (decide_eq_true (by omega)) ?_
            refine Xg.at_skip ?_
            refine Xg.at_seq ?_
            refine Xg.at_block ?_
            refine Xg.at_seq ?_
            refine Xg.at_region ?_
            refine Xg.ops_op (by kernel_rfl) (Xg.opx_pure ((Value.slice wa W.length wc)) rfl (fun _ => by kernel_rfl) ?_)
            refine Xg.ops_op (by kernel_rfl) (Xg.opx_pure ((iv (↑k : Int))) rfl (fun _ => by kernel_rfl) ?_)
            refine Xg.ops_op (by kernel_rfl) (Xg.opx_ix_own (elem := 3) (kd := .i64) (e := ((↑k : Int))) 2 1 k k rfl (by kernel_rfl) (by kernel_rfl) (by kernel_rfl) (by kernel_rfl) rfl (by omega) (by omega) ?_)
            refine Xg.ops_op (by kernel_rfl) (Xg.opx_load_own (a := wa) (off := k) 2 (iv (W.getD k (0 : Int))) rfl (by kernel_rfl) (Xg.get_ints (by omega)) (by kernel_rfl) ?_)
            refine Xg.ops_op (by kernel_rfl) (Xg.opx_pure ((iv (↑xx3 : Int))) rfl (fun _ => by kernel_rfl) ?_)
            refine Xg.ops_op (by kernel_rfl) (Xg.opx_pure (.bool (decide (((W.getD k (0 : Int)) : Int) = ((↑xx3 : Int))))) rfl (fun _ => by kernel_rfl) ?_)
            refine Xg.ops_nil ?_
            refine Xg.at_false (t := decide ((W.getD k (0 : Int) = (↑xx3 : Int)))) (by kernel_rfl) (decide_eq_false (by omega)) ?_
            refine Xg.at_skip ?_
            refine Xg.at_inBlock ?_
            refine Xg.at_region ?_
            refine Xg.ops_op (by kernel_rfl) (Xg.opx_pure ((iv (↑k : Int))) rfl (fun _ => by kernel_rfl) ?_)
            refine Xg.ops_op (by kernel_rfl) (Xg.opx_int .i64 (IntKind.wrap .i64 (((↑k : Int) + (1 : Int)))) rfl (fun _ => by kernel_rfl) (Xg.wrap_i64_in (by omega)) ?_)
            refine Xg.ops_op (by kernel_rfl) (Xg.opx_pure ((iv ((↑k : Int) + (1 : Int)))) rfl (fun _ => by kernel_rfl) ?_)
            refine Xg.ops_nil ?_
            refine Xg.at_inLoop ?_)
          (focus
            refine Xg.at_keep [0, 1, 2] (by kernel_rfl) ?_
            refine Xs.same ?_ (fun J9 => ih2 (((k + 1, at1)), J9) ?_ ?_) (by kernel_rfl))
          · rfl
          · exact ⟨by dsimp only; omega, fun h => hk1 (by dsimp only at h; omega), fun h => hk2 (by dsimp only at h; omega)⟩
          · dsimp only; omega
      · clear ih2
        obtain rfl : at1 = q := hk2 (by omega)
        refine Xg.at_own 2 rfl fun hc1 hc2 _ _ => ?_
        unfold maxLen at hc2
        refine Xg.at_nil_ints 3 .i64 ?_
        have et : ((q : Int) + 1).toNat = q + 1 := by omega
        have l1 : (W.take q).length = q := by rw [List.length_take]; omega
        have l2 : (W.drop (q + 1)).length = W.length - ((q : Int) + 1).toNat := by rw [List.length_drop, et]
        have r1 : Reads (ints 3 .i64 wa wc W) 1 (.slice wa q wc) q ((W.take q).map (Value.int .i64)) := by
          have := reads_hi (E := 3) (sz := 1) (n := W.length) (c := wc) (a := wa) (vs := W.map (Value.int .i64)) q (by omega)
          rwa [Nat.mul_one, ← List.map_take] at this
        have r2 : Reads (ints 3 .i64 wa wc W) 1 (.slice (Xg.subA wa wc ((q : Int) + 1).toNat 1) (W.length - ((q : Int) + 1).toNat) (wc - ((q : Int) + 1).toNat)) (W.length - ((q : Int) + 1).toNat) ((W.drop (q + 1)).map (Value.int .i64)) := by
          have := reads_ints_part (E := 3) (kd := .i64) (xs := W) (c := wc) (a := wa) ((q : Int) + 1).toNat W.length (by omega) (Nat.le_refl _)
          rwa [show (W.drop ((q : Int) + 1).toNat).take (W.length - ((q : Int) + 1).toNat) = W.drop (q + 1) from by rw [← l2, et, List.take_length]] at this
        (focus
          refine Xg.at_seq ?_
          refine Xg.at_seq ?_
          refine Xg.at_region ?_
          refine Xg.ops_op (by kernel_rfl) (Xg.opx_pure ((iv (↑k : Int))) rfl (fun _ => by kernel_rfl) ?_)
          refine Xg.ops_op (by kernel_rfl) (Xg.opx_pure ((Value.slice wa W.length wc)) rfl (fun _ => by kernel_rfl) ?_)
          refine Xg.ops_op (by kernel_rfl) (Xg.opx_pure ((iv (↑W.length : Int))) rfl (fun _ => by kernel_rfl) ?_)
          refine Xg.ops_op (by kernel_rfl) (Xg.opx_pure (.bool (decide ((((↑k : Int)) : Int) < ((↑W.length : Int))))) rfl (fun _ => by kernel_rfl) ?_)
          refine Xg.ops_nil ?_
          refine Xg.at_false (t := decide (((↑k : Int) < (↑W.length : Int)))) (by kernel_rfl) (decide_eq_false (by omega)) ?_
          refine Xg.at_exit rfl ?_
          refine Xg.at_seq ?_
          refine Xg.at_seq ?_
          refine Xg.at_region ?_
          refine Xg.ops_op (by kernel_rfl) (Xg.opx_pure ((iv (↑q : Int))) rfl (fun _ => by kernel_rfl) ?_)
          refine Xg.ops_op (by kernel_rfl) (Xg.opx_pure (.bool (decide ((((↑q : Int)) : Int) ≥ ((0 : Int))))) rfl (fun _ => by kernel_rfl) ?_)
          refine Xg.ops_nil ?_
          refine Xg.at_true (t := true) (by kernel_rfl) rfl ?_
          refine Xg.at_seq ?_
          refine Xg.at_region ?_
          refine Xg.ops_op (by kernel_rfl) (Xg.opx_pure ((pv xx2 0)) rfl (fun _ => by kernel_rfl) ?_)
          refine Xg.ops_op (by kernel_rfl) (Xg.opx_pure ((iv (↑xx3 : Int))) rfl (fun _ => by kernel_rfl) ?_)
          refine Xg.ops_op (by kernel_rfl) (Xg.opx_call1' [1] [SchedP xx2 (rw_ W) (List.replicate ((1 : Nat) + xx1) (-1 : Int)), ints (3 : TypeId) IntKind.i64 none (0 : Nat) [], A, ints (3 : TypeId) IntKind.i64 wa wc W] (fun _ => by kernel_rfl) (@hadd ) (by kernel_rfl) (by kernel_rfl) (by kernel_rfl) ?_)
          refine Xg.ops_op (by kernel_rfl) (Xg.opx_pure ((iv 132)) rfl (fun _ => by kernel_rfl) ?_)
          refine Xg.ops_nil ?_
          refine Xg.at_seq ?_
          refine Xg.at_region ?_
          refine Xg.ops_op (by kernel_rfl) (Xg.opx_pure ((pv xx2 0)) rfl (fun _ => by kernel_rfl) ?_)
          refine Xg.ops_op (by kernel_rfl) (Xg.opx_pure ((iv (↑xx3 : Int))) rfl (fun _ => by kernel_rfl) ?_)
          refine Xg.ops_op (by kernel_rfl) (Xg.opx_call1' [0] [SchedP xx2 (rw_ (W.eraseIdx q)) (List.replicate ((1 : Nat) + xx1) (-1 : Int)), ints (3 : TypeId) IntKind.i64 none (0 : Nat) [], A, ints (3 : TypeId) IntKind.i64 wa wc W] (fun _ => by kernel_rfl) (@hrm ) (by kernel_rfl) (by kernel_rfl) (by kernel_rfl) ?_)
          refine Xg.ops_op (by kernel_rfl) (Xg.opx_pure ((iv 0)) rfl (fun _ => by kernel_rfl) ?_)
          refine Xg.ops_nil ?_
          refine Xg.at_seq ?_
          refine Xg.at_seq ?_
          refine Xg.at_region ?_
          refine Xg.ops_op (by kernel_rfl) (Xg.opx_pure ((iv 132)) rfl (fun _ => by kernel_rfl) ?_)
          refine Xg.ops_op (by kernel_rfl) (Xg.opx_pure ((Value.bool false)) rfl (fun _ => by kernel_rfl) ?_)
          refine Xg.ops_op (by kernel_rfl) (Xg.opx_pure ((Value.bool false)) rfl (fun _ => by kernel_rfl) ?_)
          refine Xg.ops_op (by kernel_rfl) (Xg.opx_pure ((iv 0)) rfl (fun _ => by kernel_rfl) ?_)
          refine Xg.ops_op (by kernel_rfl) (Xg.opx_pure ((Value.bool false)) rfl (fun _ => by kernel_rfl) ?_)
          refine Xg.ops_op (by kernel_rfl) (Xg.opx_pure ((Value.bool false)) rfl (fun _ => by kernel_rfl) ?_)
          refine Xg.ops_nil ?_
          refine Xg.at_false (t := false) (by kernel_rfl) rfl ?_
          refine Xg.at_skip ?_
          refine Xg.at_seq ?_
          refine Xg.at_region ?_
          refine Xg.ops_op (by kernel_rfl) (Xg.opx_pure ((Value.slice none (0 : Nat) (0 : Nat))) rfl (fun _ => by kernel_rfl) ?_)
          refine Xg.ops_nil ?_
          refine Xg.at_seq ?_
          refine Xg.at_region ?_
          refine Xg.ops_op (by kernel_rfl) (Xg.opx_pure ((Value.slice none (0 : Nat) (0 : Nat))) rfl (fun _ => by kernel_rfl) ?_)
          refine Xg.ops_op (by kernel_rfl) (Xg.opx_pure ((Value.slice wa W.length wc)) rfl (fun _ => by kernel_rfl) ?_)
          refine Xg.ops_op (by kernel_rfl) (Xg.opx_pure ((iv (↑q : Int))) rfl (fun _ => by kernel_rfl) ?_)
          refine Xg.ops_op (by kernel_rfl) (Xg.opx_run (.slice wa q wc) rfl (Xg.run_sl_hi (elem := 3) (a := wa) (c := wc) (len := W.length) (k2 := .i64) (e2 := ((↑q : Int))) 1 q (by kernel_rfl) (by kernel_rfl) (by kernel_rfl) (by kernel_rfl) rfl (by omega)) ?_)
          refine Xg.ops_op (by kernel_rfl) (Xg.opx_append_ints (kd := .i64) (yv := (Value.slice wa q wc)) (m := q) (xs := []) (elem := 3) 1 8 (List.take q W) rfl (by kernel_rfl) (by kernel_rfl) (by kernel_rfl) (by kernel_rfl) (by first | rfl | assumption | omega | (simp; done) | (simp; omega)) (fun _ hS => Xg.reads_rd r1 3 rfl hS) (by first | omega | (simp only [List.length_nil, List.length_cons]; omega) | (simp; omega)) (by first | omega | (simp only [List.length_nil, List.length_cons]; omega) | (simp; omega)) fun xa1 xc1 => ?_)
          have xl1 : ([] ++ (List.take q W) : List Int).length = ([] : List Int).length + q := by first | (simp; done) | (simp; omega)
          refine Xg.ops_op (by kernel_rfl) (Xg.opx_pure ((Value.slice xa1 ([] ++ List.take q W).length xc1)) rfl (fun _ => by kernel_rfl) ?_)
          refine Xg.ops_nil ?_
          refine Xg.at_seq ?_
          refine Xg.at_region ?_
          refine Xg.ops_op (by kernel_rfl) (Xg.opx_pure ((Value.slice xa1 ([] ++ List.take q W).length xc1)) rfl (fun _ => by kernel_rfl) ?_)
          refine Xg.ops_op (by kernel_rfl) (Xg.opx_pure ((Value.slice wa W.length wc)) rfl (fun _ => by kernel_rfl) ?_)
          refine Xg.ops_op (by kernel_rfl) (Xg.opx_pure ((iv (↑q : Int))) rfl (fun _ => by kernel_rfl) ?_)
          refine Xg.ops_op (by kernel_rfl) (Xg.opx_int .i64 (IntKind.wrap .i64 (((↑q : Int) + (1 : Int)))) rfl (fun _ => by kernel_rfl) (Xg.wrap_i64_in (by omega)) ?_)
          refine Xg.ops_op (by kernel_rfl) (Xg.opx_run (.slice (Xg.subA wa wc (((↑q : Int) + (1 : Int)).toNat) 1) (W.length - (((↑q : Int) + (1 : Int)).toNat)) (wc - (((↑q : Int) + (1 : Int)).toNat))) rfl (Xg.run_sl_lo (elem := 3) (a := wa) (c := wc) (len := W.length) (k1 := .i64) (e1 := ((↑q : Int) + (1 : Int))) 1 (((↑q : Int) + (1 : Int)).toNat) (by kernel_rfl) (by kernel_rfl) (by kernel_rfl) (by kernel_rfl) (by omega) (by omega)) ?_)
          refine Xg.ops_op (by kernel_rfl) (Xg.opx_append_ints (kd := .i64) (yv := (Value.slice (subA wa wc ((↑q : Int) + (1 : Int)).toNat (1 : Nat)) (W.length - ((↑q : Int) + (1 : Int)).toNat) (wc - ((↑q : Int) + (1 : Int)).toNat))) (m := (W.length - ((↑q : Int) + (1 : Int)).toNat)) (xs := ([] ++ List.take q W)) (elem := 3) 1 8 (List.drop (q + (1 : Nat)) W) rfl (by kernel_rfl) (by kernel_rfl) (by kernel_rfl) (by kernel_rfl) (by first | rfl | assumption | omega | (simp; done) | (simp; omega)) (fun _ hS => Xg.reads_rd r2 3 rfl hS) (by first | omega | (simp only [List.length_nil, List.length_cons]; omega) | (simp; omega)) (by first | omega | (simp only [List.length_nil, List.length_cons]; omega) | (simp; omega)) fun xa2 xc2 => ?_)
          have xl2 : (([] ++ List.take q W) ++ (List.drop (q + (1 : Nat)) W) : List Int).length = (([] ++ List.take q W) : List Int).length + (W.length - ((↑q : Int) + (1 : Int)).toNat) := by first | (simp; done) | (simp; omega)
          refine Xg.ops_op (by kernel_rfl) (Xg.opx_pure ((Value.slice xa2 ([] ++ List.take q W ++ List.drop (q + (1 : Nat)) W).length xc2)) rfl (fun _ => by kernel_rfl) ?_)
          refine Xg.ops_nil ?_
          refine Xg.at_exit rfl ?_
          refine Xg.at_region ?_
          refine Xg.ops_op (by kernel_rfl) (Xg.opx_pure ((iv (↑i : Int))) rfl (fun _ => by kernel_rfl) ?_)
          refine Xg.ops_op (by kernel_rfl) (Xg.opx_int .i64 (IntKind.wrap .i64 (((↑i : Int) + (1 : Int)))) rfl (fun _ => by kernel_rfl) (Xg.wrap_i64_in (by omega)) ?_)
          refine Xg.ops_op (by kernel_rfl) (Xg.opx_pure ((iv ((↑i : Int) + (1 : Int)))) rfl (fun _ => by kernel_rfl) ?_)
          refine Xg.ops_nil ?_
          refine Xg.at_inLoop ?_)
        rw [show (([] : List Int) ++ List.take q W ++ List.drop (q + 1) W) = W.eraseIdx q from by rw [List.eraseIdx_eq_take_drop_succ, List.nil_append]]
        (focus
          refine Xg.at_keep [0, 2, 1] (by kernel_rfl) ?_
          refine Xs.same ?_ (fun J9 => ih (((i + 1, W.eraseIdx q, xa2, xc2)), J9) ?_ ?_) (by kernel_rfl))
        · rfl
        · exact ⟨by dsimp only; omega, hWn⟩
        · dsimp only; omega
  · clear ih
    have hr := kept_round xx2 (1 + xx1) W h64
    have hb := kept_begin xx2 (1 + xx1) W h64 (by omega)
    have hs := fun b d => same_eq wa b wc d W h64
    have hs2 := fun b d => same_eq b wa d wc W h64
    (focus
      refine Xg.at_seq ?_
      refine Xg.at_seq ?_
      refine Xg.at_region ?_
      refine Xg.ops_op (by kernel_rfl) (Xg.opx_pure ((iv (↑i : Int))) rfl (fun _ => by kernel_rfl) ?_)
      refine Xg.ops_op (by kernel_rfl) (Xg.opx_pure ((Value.slice a n c)) rfl (fun _ => by kernel_rfl) ?_)
      refine Xg.ops_op (by kernel_rfl) (Xg.opx_pure ((iv (↑n : Int))) rfl (fun _ => by kernel_rfl) ?_)
      refine Xg.ops_op (by kernel_rfl) (Xg.opx_pure (.bool (decide ((((↑i : Int)) : Int) < ((↑n : Int))))) rfl (fun _ => by kernel_rfl) ?_)
      refine Xg.ops_nil ?_
      refine Xg.at_false (t := decide (((↑i : Int) < (↑n : Int)))) (by kernel_rfl) (decide_eq_false (by omega)) ?_
      refine Xg.at_exit rfl ?_
      refine Xg.at_seq ?_
      refine Xg.at_region ?_
      refine Xg.ops_op (by kernel_rfl) (Xg.opx_pure ((pv xx2 0)) rfl (fun _ => by kernel_rfl) ?_)
      refine Xg.ops_op (by kernel_rfl) (Xg.opx_callE' [0] (fun xx3 => [SchedP xx2 (rw_ W) (List.replicate ((1 : Nat) + xx1) (-1 : Int)), ints (3 : TypeId) IntKind.i64 xx3.fst xx3.snd W, A, ints (3 : TypeId) IntKind.i64 wa wc W]) (fun _ => by kernel_rfl) (@hr ) (by kernel_rfl) (by kernel_rfl) (by kernel_rfl) fun xx3 xh3 => ?_)
      try dsimp only at xh3
      refine Xg.ops_op (by kernel_rfl) (Xg.opx_pure ((Value.slice xx3.fst W.length xx3.snd)) rfl (fun _ => by kernel_rfl) ?_)
      refine Xg.ops_nil ?_
      refine Xg.at_seq ?_
      refine Xg.at_region ?_
      refine Xg.ops_op (by kernel_rfl) (Xg.opx_pure ((pv xx2 0)) rfl (fun _ => by kernel_rfl) ?_)
      refine Xg.ops_op (by kernel_rfl) (Xg.opx_call1' [0] [SchedP xx2 (rw_ W) (List.replicate ((1 : Nat) + xx1) (-1 : Int)), ints (3 : TypeId) IntKind.i64 xx3.fst xx3.snd W, A, ints (3 : TypeId) IntKind.i64 wa wc W] (fun _ => by kernel_rfl) (@hb ) (by kernel_rfl) (by kernel_rfl) (by kernel_rfl) ?_)
      refine Xg.ops_op (by kernel_rfl) (Xg.opx_pure ((Value.tuple #[iv 0, iv 134])) rfl (fun _ => by kernel_rfl) ?_)
      refine Xg.ops_op (by kernel_rfl) (Xg.opx_pure ((iv 0)) rfl (fun _ => by kernel_rfl) ?_)
      refine Xg.ops_op (by kernel_rfl) (Xg.opx_pure ((iv 134)) rfl (fun _ => by kernel_rfl) ?_)
      refine Xg.ops_op (by kernel_rfl) (Xg.opx_pure ((iv 0)) rfl (fun _ => by kernel_rfl) ?_)
      refine Xg.ops_op (by kernel_rfl) (Xg.opx_pure ((iv 134)) rfl (fun _ => by kernel_rfl) ?_)
      refine Xg.ops_nil ?_
      refine Xg.at_seq ?_
      refine Xg.at_region ?_
      refine Xg.ops_op (by kernel_rfl) (Xg.opx_pure ((Value.slice xx3.fst W.length xx3.snd)) rfl (fun _ => by kernel_rfl) ?_)
      refine Xg.ops_op (by kernel_rfl) (Xg.opx_pure ((Value.slice wa W.length wc)) rfl (fun _ => by kernel_rfl) ?_)
      refine Xg.ops_op (by kernel_rfl) (Xg.opx_call1' [1, 3] [ints (3 : TypeId) IntKind.i64 xx3.fst xx3.snd W, ints (3 : TypeId) IntKind.i64 wa wc W, SchedP xx2 (rw_ W) (List.replicate ((1 : Nat) + xx1) (-1 : Int)), A] (fun _ => by kernel_rfl) (@hs2 (xx3.fst) (xx3.snd)) (by kernel_rfl) (by kernel_rfl) (by kernel_rfl) ?_)
      refine Xg.ops_op (by kernel_rfl) (Xg.opx_pure ((Value.bool true)) rfl (fun _ => by kernel_rfl) ?_)
      refine Xg.ops_nil ?_
      refine Xg.at_seq ?_
      refine Xg.at_region ?_
      refine Xg.ops_op (by kernel_rfl) (Xg.opx_pure ((Value.bool true)) rfl (fun _ => by kernel_rfl) ?_)
      refine Xg.ops_op (by kernel_rfl) (Xg.opx_pure ((Value.bool true)) rfl (fun _ => by kernel_rfl) ?_)
      refine Xg.ops_op (by kernel_rfl) (Xg.opx_pure ((iv 134)) rfl (fun _ => by kernel_rfl) ?_)
      refine Xg.ops_op (by kernel_rfl) (Xg.opx_pure ((Value.bool true)) rfl (fun _ => by kernel_rfl) ?_)
      refine Xg.ops_op (by kernel_rfl) (Xg.opx_pure ((Value.bool true)) rfl (fun _ => by kernel_rfl) ?_)
      refine Xg.ops_op (by kernel_rfl) (Xg.opx_pure ((Value.bool true)) rfl (fun _ => by kernel_rfl) ?_)
      refine Xg.ops_nil ?_
      refine Xg.at_ret_ps (v := (Value.bool true)) [3] [A] Go.Proofs.Try.func8 (fun _ => by kernel_rfl) (by kernel_rfl) (by kernel_rfl) ?_
      exact ⟨by kernel_rfl, by kernel_rfl⟩)
end Go.Proofs.Ytijjficnhpokdaa
