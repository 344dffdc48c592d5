import Derived.Test.YtijjficnhpokdaaMAll11
/- The sched package: Remove, Ready, End, Round. -/
namespace Go.Proofs.Ytijjficnhpokdaa
open Go.Sl Go.Xg
set_option linter.unusedVariables false
set_option linter.unusedSimpArgs false
set_option maxHeartbeats 4000000
set_option maxRecDepth 100000

theorem at_ge (id : Int) (r : List (Int × Bool)) : -1 ≤ at_ id r ∧ at_ id r < r.length := fidx_ge r

def remR (id : Int) (r : List (Int × Bool)) : List (Int × Bool) := if at_ id r < 0 then r else r.eraseIdx (at_ id r).toNat
def hasE (id : Int) (r : List (Int × Bool)) : Int := if at_ id r < 0 then 132 else 0

theorem remove_d (p : Nat) (r : List (Int × Bool)) (s : List Int) (id : Int) : Does Try.prog 23 [.pointer (some ⟨p, 0, none⟩), .int .i64 id] [SchedP p r s] (Ret (.int .i64 (hasE id r)) [SchedP p (remR id r) s]) := by
  refine closed fun ra rc sa sc => ?_
  have hf := find_d p ra sa rc s.length sc r (SP sa sc s) id
  have hg := at_ge id r
  unfold remR hasE
  obtain ⟨n, hn⟩ : ∃ n, at_ id r = n := ⟨_, rfl⟩
  rw [hn] at hf hg ⊢
  by_cases c1 : n < 0
  · simp only [if_pos c1]
    (focus
      refine Xg.spec_of Go.Proofs.Try.func23 rfl Go.Proofs.Try.ntmps23 fun g F => ?_)
    (focus
      refine Xg.at_seq ?_
      refine Xg.at_region ?_
      refine Xg.ops_op (by kernel_rfl) (Xg.opx_pure ((iv 0)) rfl (fun _ => by kernel_rfl) ?_)
      refine Xg.ops_nil ?_
      refine Xg.at_seq ?_
      refine Xg.at_region ?_
      refine Xg.ops_op (by kernel_rfl) (Xg.opx_pure ((pv p 0)) rfl (fun _ => by kernel_rfl) ?_)
      refine Xg.ops_op (by kernel_rfl) (Xg.opx_pure ((iv id)) rfl (fun _ => by kernel_rfl) ?_)
      refine Xg.ops_op (by kernel_rfl) (Xg.opx_call1' [1, 0, 2] [RP ra rc r, HdP p ra r.length rc sa s.length sc, SP sa sc s] (fun _ => by kernel_rfl) (@hf ) (by kernel_rfl) (by kernel_rfl) (by kernel_rfl) ?_)
      refine Xg.ops_op (by kernel_rfl) (Xg.opx_pure ((iv n)) rfl (fun _ => by kernel_rfl) ?_)
      refine Xg.ops_nil ?_
      refine Xg.at_seq ?_
      refine Xg.at_seq ?_
      refine Xg.at_region ?_
      refine Xg.ops_op (by kernel_rfl) (Xg.opx_pure ((iv n)) rfl (fun _ => by kernel_rfl) ?_)
      refine Xg.ops_op (by kernel_rfl) (Xg.opx_pure (.bool (decide ((n : Int) < ((0 : Int))))) rfl (fun _ => by kernel_rfl) ?_)
      refine Xg.ops_nil ?_
      refine Xg.at_true (t := decide ((n < (0 : Int)))) (by kernel_rfl) (decide_eq_true (by omega)) ?_
      refine Xg.at_seq ?_
      refine Xg.at_region ?_
      refine Xg.ops_op (by kernel_rfl) (Xg.opx_pure ((iv 132)) rfl (fun _ => by kernel_rfl) ?_)
      refine Xg.ops_nil ?_
      refine Xg.at_ret_ps (v := (iv 132)) [1, 0, 2] [HdP p ra r.length rc sa s.length sc, RP ra rc r, SP sa sc s] Go.Proofs.Try.func23 (fun _ => by kernel_rfl) (by kernel_rfl) (by kernel_rfl) ?_
      refine ⟨((ra, rc)), trivial, by kernel_rfl, by kernel_rfl⟩)
  · simp only [if_neg c1]
    obtain ⟨i, rfl⟩ : ∃ i : Nat, n = i := ⟨n.toNat, by omega⟩
    have hi : i < r.length := by omega
    have hd := delete_d ra rc r i hi
    rw [Int.toNat_natCast]
    obtain ⟨r', hr'⟩ : ∃ r', r.eraseIdx i = r' := ⟨_, rfl⟩
    rw [hr'] at hd ⊢
    clear hn hg c1 hr'
    (focus
      refine Xg.spec_of Go.Proofs.Try.func23 rfl Go.Proofs.Try.ntmps23 fun g F => ?_)
    refine Xg.at_own 1 rfl fun h1 h2 _ _ => ?_
    have hm : r.length ≤ maxLen := Nat.le_trans h1 h2
    unfold maxLen at hm
    clear h1 h2
    (focus
      refine Xg.at_seq ?_
      refine Xg.at_region ?_
      refine Xg.ops_op (by kernel_rfl) (Xg.opx_pure ((iv 0)) rfl (fun _ => by kernel_rfl) ?_)
      refine Xg.ops_nil ?_
      refine Xg.at_seq ?_
      refine Xg.at_region ?_
      refine Xg.ops_op (by kernel_rfl) (Xg.opx_pure ((pv p 0)) rfl (fun _ => by kernel_rfl) ?_)
      refine Xg.ops_op (by kernel_rfl) (Xg.opx_pure ((iv id)) rfl (fun _ => by kernel_rfl) ?_)
      refine Xg.ops_op (by kernel_rfl) (Xg.opx_call1' [1, 0, 2] [RP ra rc r, HdP p ra r.length rc sa s.length sc, SP sa sc s] (fun _ => by kernel_rfl) (@hf ) (by kernel_rfl) (by kernel_rfl) (by kernel_rfl) ?_)
      refine Xg.ops_op (by kernel_rfl) (Xg.opx_pure ((iv (↑i : Int))) rfl (fun _ => by kernel_rfl) ?_)
      refine Xg.ops_nil ?_
      refine Xg.at_seq ?_
      refine Xg.at_seq ?_
      refine Xg.at_region ?_
      refine Xg.ops_op (by kernel_rfl) (Xg.opx_pure ((iv (↑i : Int))) rfl (fun _ => by kernel_rfl) ?_)
      refine Xg.ops_op (by kernel_rfl) (Xg.opx_pure (.bool (decide ((((↑i : Int)) : Int) < ((0 : Int))))) rfl (fun _ => by kernel_rfl) ?_)
      refine Xg.ops_nil ?_
      refine Xg.at_false (t := false) (by kernel_rfl) rfl ?_
      refine Xg.at_skip ?_
      refine Xg.at_seq ?_
      refine Xg.at_region ?_
      refine Xg.ops_op (by kernel_rfl) (Xg.opx_pure ((pv p 0)) rfl (fun _ => by kernel_rfl) ?_)
      refine Xg.ops_op (by kernel_rfl) (Xg.opx_pure ((pv p 0)) rfl (fun _ => by kernel_rfl) ?_)
      refine Xg.ops_op (by kernel_rfl) (Xg.opx_pure ((pv p 0)) rfl (fun _ => by kernel_rfl) ?_)
      refine Xg.ops_op (by kernel_rfl) (Xg.opx_pure ((pv p 0)) rfl (fun _ => by kernel_rfl) ?_)
      refine Xg.ops_op (by kernel_rfl) (Xg.opx_load (b := p) (off := ((0 : Nat))) 1 (Value.slice ra r.length rc) rfl (by kernel_rfl) (by kernel_rfl) (by kernel_rfl) ?_)
      refine Xg.ops_op (by kernel_rfl) (Xg.opx_pure ((iv (↑i : Int))) rfl (fun _ => by kernel_rfl) ?_)
      refine Xg.ops_op (by kernel_rfl) (Xg.opx_pure ((iv (↑i : Int))) rfl (fun _ => by kernel_rfl) ?_)
      refine Xg.ops_op (by kernel_rfl) (Xg.opx_int .i64 (IntKind.wrap .i64 (((↑i : Int) + (1 : Int)))) rfl (fun _ => by kernel_rfl) (Xg.wrap_i64_in (by omega)) ?_)
      refine Xg.ops_op (by kernel_rfl) (Xg.opx_call1' [0] [RP ra rc r', HdP p ra r.length rc sa s.length sc, SP sa sc s] (fun _ => by kernel_rfl) (@hd ) (by kernel_rfl) (by kernel_rfl) (by kernel_rfl) ?_)
      refine Xg.ops_op (by kernel_rfl) (Xg.opx_pure ((pv p 0)) rfl (fun _ => by kernel_rfl) ?_)
      refine Xg.ops_op (by kernel_rfl) (Xg.opx_pure ((pv p 0)) rfl (fun _ => by kernel_rfl) ?_)
      refine Xg.ops_op (by kernel_rfl) (Xg.opx_store1 (off := 0) 1 (Value.slice ra r'.length rc) (by kernel_rfl) rfl (by kernel_rfl) (by kernel_rfl) (by kernel_rfl) (Nat.le_of_ble_eq_true (by kernel_rfl)) ?_)
      refine Xg.ops_nil ?_
      refine Xg.at_seq ?_
      refine Xg.at_region ?_
      refine Xg.ops_op (by kernel_rfl) (Xg.opx_pure ((iv 0)) rfl (fun _ => by kernel_rfl) ?_)
      refine Xg.ops_nil ?_
      refine Xg.at_ret_ps (v := (iv 0)) [1, 0, 2] [row p (62 : TypeId) [Value.slice ra r'.length rc, Value.slice sa s.length sc], RP ra rc r', SP sa sc s] Go.Proofs.Try.func23 (fun _ => by kernel_rfl) (by kernel_rfl) (by kernel_rfl) ?_
      refine ⟨((ra, rc)), trivial, by kernel_rfl, by kernel_rfl⟩)

def rdyR (id : Int) (b : Bool) (r : List (Int × Bool)) : List (Int × Bool) := if at_ id r < 0 then r else r.set (at_ id r).toNat (id, b)

theorem mc_set (r : List (Int × Bool)) (i : Nat) (b : Bool) (h : i < r.length) : (recs mc r).set (i * 2 + 1) (.bool b) = recs mc (r.set i ((r.getD i default).1, b)) := by
  induction r generalizing i with
  | nil => simp at h
  | cons x r ih =>
    cases i with
    | zero => simp [recs, mc]
    | succ i =>
      have := ih i (by simpa using h)
      rw [show (i + 1) * 2 + 1 = (i * 2 + 1) + 1 + 1 from by omega]
      simp only [recs, List.flatMap_cons] at *
      simp [mc] at *
      exact this
theorem at_id (id : Int) (r : List (Int × Bool)) (h : 0 ≤ at_ id r) : (r.getD (at_ id r).toNat default).1 = id := by
  have := fidx_pos (p := fun x : Int × Bool => x.1 == id) default r h
  exact of_decide_eq_true this

theorem ready_d (p : Nat) (r : List (Int × Bool)) (s : List Int) (id : Int) (b : Bool) : Does Try.prog 15 [.pointer (some ⟨p, 0, none⟩), .int .i64 id, .bool b] [SchedP p r s] (Ret (.int .i64 (hasE id r)) [SchedP p (rdyR id b r) s]) := by
  refine closed fun ra rc sa sc => ?_
  have hf := find_d p ra sa rc s.length sc r (SP sa sc s) id
  have hg := at_ge id r
  have hid := at_id id r
  unfold rdyR hasE
  obtain ⟨n, hn⟩ : ∃ n, at_ id r = n := ⟨_, rfl⟩
  rw [hn] at hf hg hid ⊢
  by_cases c1 : n < 0
  · simp only [if_pos c1]
    (focus
      refine Xg.spec_of Go.Proofs.Try.func15 rfl Go.Proofs.Try.ntmps15 fun g F => ?_)
    (focus
      refine Xg.at_seq ?_
      refine Xg.at_region ?_
      refine Xg.ops_op (by kernel_rfl) (Xg.opx_pure ((iv 0)) rfl (fun _ => by kernel_rfl) ?_)
      refine Xg.ops_nil ?_
      refine Xg.at_seq ?_
      refine Xg.at_region ?_
      refine Xg.ops_op (by kernel_rfl) (Xg.opx_pure ((pv p 0)) rfl (fun _ => by kernel_rfl) ?_)
      refine Xg.ops_op (by kernel_rfl) (Xg.opx_pure ((iv id)) rfl (fun _ => by kernel_rfl) ?_)
      refine Xg.ops_op (by kernel_rfl) (Xg.opx_call1' [1, 0, 2] [RP ra rc r, HdP p ra r.length rc sa s.length sc, SP sa sc s] (fun _ => by kernel_rfl) (@hf ) (by kernel_rfl) (by kernel_rfl) (by kernel_rfl) ?_)
      refine Xg.ops_op (by kernel_rfl) (Xg.opx_pure ((iv n)) rfl (fun _ => by kernel_rfl) ?_)
      refine Xg.ops_nil ?_
      refine Xg.at_seq ?_
      refine Xg.at_seq ?_
      refine Xg.at_region ?_
      refine Xg.ops_op (by kernel_rfl) (Xg.opx_pure ((iv n)) rfl (fun _ => by kernel_rfl) ?_)
      refine Xg.ops_op (by kernel_rfl) (Xg.opx_pure (.bool (decide ((n : Int) < ((0 : Int))))) rfl (fun _ => by kernel_rfl) ?_)
      refine Xg.ops_nil ?_
      refine Xg.at_true (t := decide ((n < (0 : Int)))) (by kernel_rfl) (decide_eq_true (by omega)) ?_
      refine Xg.at_seq ?_
      refine Xg.at_region ?_
      refine Xg.ops_op (by kernel_rfl) (Xg.opx_pure ((iv 132)) rfl (fun _ => by kernel_rfl) ?_)
      refine Xg.ops_nil ?_
      refine Xg.at_ret_ps (v := (iv 132)) [1, 0, 2] [HdP p ra r.length rc sa s.length sc, RP ra rc r, SP sa sc s] Go.Proofs.Try.func15 (fun _ => by kernel_rfl) (by kernel_rfl) (by kernel_rfl) ?_
      refine ⟨((ra, rc)), trivial, by kernel_rfl, by kernel_rfl⟩)
  · simp only [if_neg c1]
    obtain ⟨i, rfl⟩ : ∃ i : Nat, n = i := ⟨n.toNat, by omega⟩
    have hi : i < r.length := by omega
    have hs := mc_set r i b hi
    rw [Int.toNat_natCast] at hid ⊢
    rw [hid (by omega)] at hs
    clear hn hg c1 hid
    (focus
      refine Xg.spec_of Go.Proofs.Try.func15 rfl Go.Proofs.Try.ntmps15 fun g F => ?_)
    refine Xg.at_own 1 rfl fun h1 h2 _ _ => ?_
    have hm : r.length ≤ maxLen := Nat.le_trans h1 h2
    unfold maxLen at hm
    clear h1 h2
    (focus
      refine Xg.at_seq ?_
      refine Xg.at_region ?_
      refine Xg.ops_op (by kernel_rfl) (Xg.opx_pure ((iv 0)) rfl (fun _ => by kernel_rfl) ?_)
      refine Xg.ops_nil ?_
      refine Xg.at_seq ?_
      refine Xg.at_region ?_
      refine Xg.ops_op (by kernel_rfl) (Xg.opx_pure ((pv p 0)) rfl (fun _ => by kernel_rfl) ?_)
      refine Xg.ops_op (by kernel_rfl) (Xg.opx_pure ((iv id)) rfl (fun _ => by kernel_rfl) ?_)
      refine Xg.ops_op (by kernel_rfl) (Xg.opx_call1' [1, 0, 2] [RP ra rc r, HdP p ra r.length rc sa s.length sc, SP sa sc s] (fun _ => by kernel_rfl) (@hf ) (by kernel_rfl) (by kernel_rfl) (by kernel_rfl) ?_)
      refine Xg.ops_op (by kernel_rfl) (Xg.opx_pure ((iv (↑i : Int))) rfl (fun _ => by kernel_rfl) ?_)
      refine Xg.ops_nil ?_
      refine Xg.at_seq ?_
      refine Xg.at_seq ?_
      refine Xg.at_region ?_
      refine Xg.ops_op (by kernel_rfl) (Xg.opx_pure ((iv (↑i : Int))) rfl (fun _ => by kernel_rfl) ?_)
      refine Xg.ops_op (by kernel_rfl) (Xg.opx_pure (.bool (decide ((((↑i : Int)) : Int) < ((0 : Int))))) rfl (fun _ => by kernel_rfl) ?_)
      refine Xg.ops_nil ?_
      refine Xg.at_false (t := false) (by kernel_rfl) rfl ?_
      refine Xg.at_skip ?_
      refine Xg.at_seq ?_
      refine Xg.at_region ?_
      refine Xg.ops_op (by kernel_rfl) (Xg.opx_pure ((pv p 0)) rfl (fun _ => by kernel_rfl) ?_)
      refine Xg.ops_op (by kernel_rfl) (Xg.opx_pure ((pv p 0)) rfl (fun _ => by kernel_rfl) ?_)
      refine Xg.ops_op (by kernel_rfl) (Xg.opx_pure ((pv p 0)) rfl (fun _ => by kernel_rfl) ?_)
      refine Xg.ops_op (by kernel_rfl) (Xg.opx_load (b := p) (off := ((0 : Nat))) 1 (Value.slice ra r.length rc) rfl (by kernel_rfl) (by kernel_rfl) (by kernel_rfl) ?_)
      refine Xg.ops_op (by kernel_rfl) (Xg.opx_pure ((iv (↑i : Int))) rfl (fun _ => by kernel_rfl) ?_)
      refine Xg.ops_op (by kernel_rfl) (Xg.opx_pure ((Value.bool b)) rfl (fun _ => by kernel_rfl) ?_)
      refine Xg.ops_op (by kernel_rfl) (Xg.opx_ix_own (elem := 65) (kd := .i64) (e := ((↑i : Int))) 0 2 i (i * (2 : Nat)) rfl (by kernel_rfl) (by kernel_rfl) (by kernel_rfl) (by kernel_rfl) rfl (by omega) (by omega) ?_)
      refine Xg.ops_op (by kernel_rfl) (Xg.opx_pure ((Value.pointer (some (Addr.mk (blk ra) (i * (2 : Nat) + (1 : Nat)) none)))) rfl (fun _ => by kernel_rfl) ?_)
      refine Xg.ops_op (by kernel_rfl) (Xg.opx_store_own (a := ra) (off := (i * (2 : Nat) + (1 : Nat))) 0 (Value.bool b) (by kernel_rfl) rfl (by kernel_rfl) (by kernel_rfl) (by kernel_rfl) (by first | omega | (simp; done) | (simp; omega)) ?_)
      refine Xg.ops_nil ?_
      refine Xg.at_seq ?_
      refine Xg.at_region ?_
      refine Xg.ops_op (by kernel_rfl) (Xg.opx_pure ((iv 0)) rfl (fun _ => by kernel_rfl) ?_)
      refine Xg.ops_nil ?_
      refine Xg.at_ret_ps (v := (iv 0)) [1, 0, 2] [HdP p ra r.length rc sa s.length sc, ownS (65 : Nat) (2 : Nat) (Value.slice ra r.length rc) r.length ((recs mc r).set (i * (2 : Nat) + (1 : Nat)) (Value.bool b)), SP sa sc s] Go.Proofs.Try.func15 (fun _ => by kernel_rfl) (by kernel_rfl) (by kernel_rfl) ?_
      refine ⟨((ra, rc)), trivial, by kernel_rfl, ?_⟩)
    simp only [RP, recsO, HdP, List.length_set, hs]

theorem end_d (p : Nat) (r : List (Int × Bool)) (s : List Int) (slot : Int) : Does Try.prog 14 [.pointer (some ⟨p, 0, none⟩), .int .i64 slot] [SchedP p r s]
    (Ret (if slot < 0 ∨ (s.length : Int) ≤ slot ∨ s.getD slot.toNat 0 < 0 then .tuple #[.int .i64 0, .int .i64 131] else .tuple #[.int .i64 (s.getD slot.toNat 0), .int .i64 0]) [SchedP p r (if slot < 0 ∨ (s.length : Int) ≤ slot ∨ s.getD slot.toNat 0 < 0 then s else s.set slot.toNat (-1))]) := by
  refine closed fun ra rc sa sc => ?_
  by_cases c1 : slot < 0
  · rw [if_pos (.inl c1), if_pos (.inl c1)]
    (focus
      refine Xg.spec_of Go.Proofs.Try.func14 rfl Go.Proofs.Try.ntmps14 fun g F => ?_)
    (focus
      refine Xg.at_seq ?_
      refine Xg.at_region ?_
      refine Xg.ops_op (by kernel_rfl) (Xg.opx_pure ((iv 0)) rfl (fun _ => by kernel_rfl) ?_)
      refine Xg.ops_op (by kernel_rfl) (Xg.opx_pure ((iv 0)) rfl (fun _ => by kernel_rfl) ?_)
      refine Xg.ops_nil ?_
      refine Xg.at_seq ?_
      refine Xg.at_seq ?_
      refine Xg.at_region ?_
      refine Xg.ops_op (by kernel_rfl) (Xg.opx_pure ((iv slot)) rfl (fun _ => by kernel_rfl) ?_)
      refine Xg.ops_op (by kernel_rfl) (Xg.opx_pure (.bool (decide ((slot : Int) < ((0 : Int))))) rfl (fun _ => by kernel_rfl) ?_)
      refine Xg.ops_op (by kernel_rfl) (Xg.opx_pure ((Value.bool (decide (slot < (0 : Int))))) rfl (fun _ => by kernel_rfl) ?_)
      refine Xg.ops_flag (j := 9) (c := (decide (slot < (0 : Int)))) (by kernel_rfl) (fun _ => ?_) (fun xh1 => absurd (of_decide_eq_false xh1) (by omega))
      refine Xg.ops_skip (by kernel_rfl) ?_
      refine Xg.ops_skip (by kernel_rfl) ?_
      refine Xg.ops_skip (by kernel_rfl) ?_
      refine Xg.ops_skip (by kernel_rfl) ?_
      refine Xg.ops_skip (by kernel_rfl) ?_
      refine Xg.ops_skip (by kernel_rfl) ?_
      refine Xg.ops_skip (by kernel_rfl) ?_
      refine Xg.ops_op (by kernel_rfl) (Xg.opx_pure ((Value.bool true)) rfl (fun _ => by kernel_rfl) ?_)
      refine Xg.ops_op (by kernel_rfl) (Xg.opx_pure ((Value.bool true)) rfl (fun _ => by kernel_rfl) ?_)
      refine Xg.ops_skip (by kernel_rfl) ?_
      refine Xg.ops_skip (by kernel_rfl) ?_
      refine Xg.ops_skip (by kernel_rfl) ?_
      refine Xg.ops_skip (by kernel_rfl) ?_
      refine Xg.ops_skip (by kernel_rfl) ?_
      refine Xg.ops_skip (by kernel_rfl) ?_
      refine Xg.ops_skip (by kernel_rfl) ?_
      refine Xg.ops_skip (by kernel_rfl) ?_
      refine Xg.ops_op (by kernel_rfl) (Xg.opx_pure ((Value.bool true)) rfl (fun _ => by kernel_rfl) ?_)
      refine Xg.ops_nil ?_
      refine Xg.at_true (t := true) (by kernel_rfl) rfl ?_
      refine Xg.at_seq ?_
      refine Xg.at_region ?_
      refine Xg.ops_op (by kernel_rfl) (Xg.opx_pure ((iv 0)) rfl (fun _ => by kernel_rfl) ?_)
      refine Xg.ops_op (by kernel_rfl) (Xg.opx_pure ((iv 131)) rfl (fun _ => by kernel_rfl) ?_)
      refine Xg.ops_nil ?_
      refine Xg.at_ret_ps (v := (Value.tuple #[iv 0, iv 131])) [0, 1, 2] [HdP p ra r.length rc sa s.length sc, RP ra rc r, SP sa sc s] Go.Proofs.Try.func14 (fun _ => by kernel_rfl) (by kernel_rfl) (by kernel_rfl) ?_
      refine ⟨((ra, rc)), trivial, by kernel_rfl, by kernel_rfl⟩)
  by_cases c2 : (s.length : Int) ≤ slot
  · rw [if_pos (.inr (.inl c2)), if_pos (.inr (.inl c2))]
    (focus
      refine Xg.spec_of Go.Proofs.Try.func14 rfl Go.Proofs.Try.ntmps14 fun g F => ?_)
    (focus
      refine Xg.at_seq ?_
      refine Xg.at_region ?_
      refine Xg.ops_op (by kernel_rfl) (Xg.opx_pure ((iv 0)) rfl (fun _ => by kernel_rfl) ?_)
      refine Xg.ops_op (by kernel_rfl) (Xg.opx_pure ((iv 0)) rfl (fun _ => by kernel_rfl) ?_)
      refine Xg.ops_nil ?_
      refine Xg.at_seq ?_
      refine Xg.at_seq ?_
      refine Xg.at_region ?_
      refine Xg.ops_op (by kernel_rfl) (Xg.opx_pure ((iv slot)) rfl (fun _ => by kernel_rfl) ?_)
      refine Xg.ops_op (by kernel_rfl) (Xg.opx_pure (.bool (decide ((slot : Int) < ((0 : Int))))) rfl (fun _ => by kernel_rfl) ?_)
      refine Xg.ops_op (by kernel_rfl) (Xg.opx_pure ((Value.bool (decide (slot < (0 : Int))))) rfl (fun _ => by kernel_rfl) ?_)
      refine Xg.ops_flag (j := 9) (c := (decide (slot < (0 : Int)))) (by kernel_rfl) (fun xh1 => absurd (of_decide_eq_true xh1) (by omega)) (fun _ => ?_)
      refine Xg.ops_op (by kernel_rfl) (Xg.opx_pure ((iv slot)) rfl (fun _ => by kernel_rfl) ?_)
      refine Xg.ops_op (by kernel_rfl) (Xg.opx_pure ((pv p 0)) rfl (fun _ => by kernel_rfl) ?_)
      refine Xg.ops_op (by kernel_rfl) (Xg.opx_pure ((pv p 0)) rfl (fun _ => by kernel_rfl) ?_)
      refine Xg.ops_op (by kernel_rfl) (Xg.opx_pure ((pv p 1)) rfl (fun _ => by kernel_rfl) ?_)
      refine Xg.ops_op (by kernel_rfl) (Xg.opx_load (b := p) (off := ((1 : Nat))) 0 (Value.slice sa s.length sc) rfl (by kernel_rfl) (by kernel_rfl) (by kernel_rfl) ?_)
      refine Xg.ops_op (by kernel_rfl) (Xg.opx_pure ((iv (↑s.length : Int))) rfl (fun _ => by kernel_rfl) ?_)
      refine Xg.ops_op (by kernel_rfl) (Xg.opx_pure (.bool (decide ((slot : Int) ≥ ((↑s.length : Int))))) rfl (fun _ => by kernel_rfl) ?_)
      refine Xg.ops_flag (j := 16) (c := (decide (slot ≥ (↑s.length : Int)))) (by kernel_rfl) (fun _ => ?_) (fun xh1 => absurd (of_decide_eq_false xh1) (by omega))
      refine Xg.ops_op (by kernel_rfl) (Xg.opx_pure ((Value.bool true)) rfl (fun _ => by kernel_rfl) ?_)
      refine Xg.ops_op (by kernel_rfl) (Xg.opx_pure ((Value.bool true)) rfl (fun _ => by kernel_rfl) ?_)
      refine Xg.ops_skip (by kernel_rfl) ?_
      refine Xg.ops_skip (by kernel_rfl) ?_
      refine Xg.ops_skip (by kernel_rfl) ?_
      refine Xg.ops_skip (by kernel_rfl) ?_
      refine Xg.ops_skip (by kernel_rfl) ?_
      refine Xg.ops_skip (by kernel_rfl) ?_
      refine Xg.ops_skip (by kernel_rfl) ?_
      refine Xg.ops_skip (by kernel_rfl) ?_
      refine Xg.ops_op (by kernel_rfl) (Xg.opx_pure ((Value.bool true)) rfl (fun _ => by kernel_rfl) ?_)
      refine Xg.ops_nil ?_
      refine Xg.at_true (t := true) (by kernel_rfl) rfl ?_
      refine Xg.at_seq ?_
      refine Xg.at_region ?_
      refine Xg.ops_op (by kernel_rfl) (Xg.opx_pure ((iv 0)) rfl (fun _ => by kernel_rfl) ?_)
      refine Xg.ops_op (by kernel_rfl) (Xg.opx_pure ((iv 131)) rfl (fun _ => by kernel_rfl) ?_)
      refine Xg.ops_nil ?_
      refine Xg.at_ret_ps (v := (Value.tuple #[iv 0, iv 131])) [0, 1, 2] [HdP p ra r.length rc sa s.length sc, RP ra rc r, SP sa sc s] Go.Proofs.Try.func14 (fun _ => by kernel_rfl) (by kernel_rfl) (by kernel_rfl) ?_
      refine ⟨((ra, rc)), trivial, by kernel_rfl, by kernel_rfl⟩)
  obtain ⟨i, rfl⟩ : ∃ i : Nat, slot = i := ⟨slot.toNat, by omega⟩
  rw [Int.toNat_natCast]
  by_cases c3 : s.getD i 0 < 0
  · rw [if_pos (.inr (.inr c3)), if_pos (.inr (.inr c3))]
    (focus
      refine Xg.spec_of Go.Proofs.Try.func14 rfl Go.Proofs.Try.ntmps14 fun g F => ?_)
    (focus
      refine Xg.at_seq ?_
      refine Xg.at_region ?_
      refine Xg.ops_op (by kernel_rfl) (Xg.opx_pure ((iv 0)) rfl (fun _ => by kernel_rfl) ?_)
      refine Xg.ops_op (by kernel_rfl) (Xg.opx_pure ((iv 0)) rfl (fun _ => by kernel_rfl) ?_)
      refine Xg.ops_nil ?_
      refine Xg.at_seq ?_
      refine Xg.at_seq ?_
      refine Xg.at_region ?_
      refine Xg.ops_op (by kernel_rfl) (Xg.opx_pure ((iv (↑i : Int))) rfl (fun _ => by kernel_rfl) ?_)
      refine Xg.ops_op (by kernel_rfl) (Xg.opx_pure (.bool (decide ((((↑i : Int)) : Int) < ((0 : Int))))) rfl (fun _ => by kernel_rfl) ?_)
      refine Xg.ops_op (by kernel_rfl) (Xg.opx_pure ((Value.bool (decide ((↑i : Int) < (0 : Int))))) rfl (fun _ => by kernel_rfl) ?_)
      refine Xg.ops_op (by kernel_rfl) (Xg.opx_pure ((iv (↑i : Int))) rfl (fun _ => by kernel_rfl) ?_)
      refine Xg.ops_op (by kernel_rfl) (Xg.opx_pure ((pv p 0)) rfl (fun _ => by kernel_rfl) ?_)
      refine Xg.ops_op (by kernel_rfl) (Xg.opx_pure ((pv p 0)) rfl (fun _ => by kernel_rfl) ?_)
      refine Xg.ops_op (by kernel_rfl) (Xg.opx_pure ((pv p 1)) rfl (fun _ => by kernel_rfl) ?_)
      refine Xg.ops_op (by kernel_rfl) (Xg.opx_load (b := p) (off := ((1 : Nat))) 0 (Value.slice sa s.length sc) rfl (by kernel_rfl) (by kernel_rfl) (by kernel_rfl) ?_)
      refine Xg.ops_op (by kernel_rfl) (Xg.opx_pure ((iv (↑s.length : Int))) rfl (fun _ => by kernel_rfl) ?_)
      refine Xg.ops_op (by kernel_rfl) (Xg.opx_pure (.bool (decide ((((↑i : Int)) : Int) ≥ ((↑s.length : Int))))) rfl (fun _ => by kernel_rfl) ?_)
      refine Xg.ops_flag (j := 9) (c := (decide ((↑i : Int) < (0 : Int)))) (by kernel_rfl) (fun xh1 => absurd (of_decide_eq_true xh1) (by omega)) (fun _ => ?_)
      refine Xg.ops_flag (j := 16) (c := (decide ((↑i : Int) ≥ (↑s.length : Int)))) (by kernel_rfl) (fun xh1 => absurd (of_decide_eq_true xh1) (by omega)) (fun _ => ?_)
      refine Xg.ops_op (by kernel_rfl) (Xg.opx_pure ((Value.bool false)) rfl (fun _ => by kernel_rfl) ?_)
      refine Xg.ops_op (by kernel_rfl) (Xg.opx_pure ((Value.bool false)) rfl (fun _ => by kernel_rfl) ?_)
      refine Xg.ops_op (by kernel_rfl) (Xg.opx_pure ((pv p 0)) rfl (fun _ => by kernel_rfl) ?_)
      refine Xg.ops_op (by kernel_rfl) (Xg.opx_pure ((pv p 0)) rfl (fun _ => by kernel_rfl) ?_)
      refine Xg.ops_op (by kernel_rfl) (Xg.opx_pure ((pv p 1)) rfl (fun _ => by kernel_rfl) ?_)
      refine Xg.ops_op (by kernel_rfl) (Xg.opx_load (b := p) (off := ((1 : Nat))) 0 (Value.slice sa s.length sc) rfl (by kernel_rfl) (by kernel_rfl) (by kernel_rfl) ?_)
      refine Xg.ops_op (by kernel_rfl) (Xg.opx_pure ((iv (↑i : Int))) rfl (fun _ => by kernel_rfl) ?_)
      refine Xg.ops_op (by kernel_rfl) (Xg.opx_ix_own (elem := 3) (kd := .i64) (e := ((↑i : Int))) 2 1 i i rfl (by kernel_rfl) (by kernel_rfl) (by kernel_rfl) (by kernel_rfl) rfl (by omega) (by omega) ?_)
      refine Xg.ops_op (by kernel_rfl) (Xg.opx_load_own (a := sa) (off := i) 2 (iv (s.getD i (0 : Int))) rfl (by kernel_rfl) (Xg.get_ints (by omega)) (by kernel_rfl) ?_)
      refine Xg.ops_op (by kernel_rfl) (Xg.opx_pure (.bool (decide (((s.getD i (0 : Int)) : Int) < ((0 : Int))))) rfl (fun _ => by kernel_rfl) ?_)
      refine Xg.ops_flag (j := 26) (c := (decide (s.getD i (0 : Int) < (0 : Int)))) (by kernel_rfl) (fun _ => ?_) (fun xh1 => absurd (of_decide_eq_false xh1) (by omega))
      refine Xg.ops_op (by kernel_rfl) (Xg.opx_pure ((Value.bool true)) rfl (fun _ => by kernel_rfl) ?_)
      refine Xg.ops_nil ?_
      refine Xg.at_true (t := true) (by kernel_rfl) rfl ?_
      refine Xg.at_seq ?_
      refine Xg.at_region ?_
      refine Xg.ops_op (by kernel_rfl) (Xg.opx_pure ((iv 0)) rfl (fun _ => by kernel_rfl) ?_)
      refine Xg.ops_op (by kernel_rfl) (Xg.opx_pure ((iv 131)) rfl (fun _ => by kernel_rfl) ?_)
      refine Xg.ops_nil ?_
      refine Xg.at_ret_ps (v := (Value.tuple #[iv 0, iv 131])) [0, 1, 2] [HdP p ra r.length rc sa s.length sc, RP ra rc r, SP sa sc s] Go.Proofs.Try.func14 (fun _ => by kernel_rfl) (by kernel_rfl) (by kernel_rfl) ?_
      refine ⟨((ra, rc)), trivial, by kernel_rfl, by kernel_rfl⟩)
  · rw [if_neg (by omega), if_neg (by omega)]
    have hl : (s.set i (-1)).length = s.length := List.length_set ..
    (focus
      refine Xg.spec_of Go.Proofs.Try.func14 rfl Go.Proofs.Try.ntmps14 fun g F => ?_)
    (focus
      refine Xg.at_seq ?_
      refine Xg.at_region ?_
      refine Xg.ops_op (by kernel_rfl) (Xg.opx_pure ((iv 0)) rfl (fun _ => by kernel_rfl) ?_)
      refine Xg.ops_op (by kernel_rfl) (Xg.opx_pure ((iv 0)) rfl (fun _ => by kernel_rfl) ?_)
      refine Xg.ops_nil ?_
      refine Xg.at_seq ?_
      refine Xg.at_seq ?_
      refine Xg.at_region ?_
      refine Xg.ops_op (by kernel_rfl) (Xg.opx_pure ((iv (↑i : Int))) rfl (fun _ => by kernel_rfl) ?_)
      refine Xg.ops_op (by kernel_rfl) (Xg.opx_pure (.bool (decide ((((↑i : Int)) : Int) < ((0 : Int))))) rfl (fun _ => by kernel_rfl) ?_)
      refine Xg.ops_op (by kernel_rfl) (Xg.opx_pure ((Value.bool (decide ((↑i : Int) < (0 : Int))))) rfl (fun _ => by kernel_rfl) ?_)
      refine Xg.ops_op (by kernel_rfl) (Xg.opx_pure ((iv (↑i : Int))) rfl (fun _ => by kernel_rfl) ?_)
      refine Xg.ops_op (by kernel_rfl) (Xg.opx_pure ((pv p 0)) rfl (fun _ => by kernel_rfl) ?_)
      refine Xg.ops_op (by kernel_rfl) (Xg.opx_pure ((pv p 0)) rfl (fun _ => by kernel_rfl) ?_)
      refine Xg.ops_op (by kernel_rfl) (Xg.opx_pure ((pv p 1)) rfl (fun _ => by kernel_rfl) ?_)
      refine Xg.ops_op (by kernel_rfl) (Xg.opx_load (b := p) (off := ((1 : Nat))) 0 (Value.slice sa s.length sc) rfl (by kernel_rfl) (by kernel_rfl) (by kernel_rfl) ?_)
      refine Xg.ops_op (by kernel_rfl) (Xg.opx_pure ((iv (↑s.length : Int))) rfl (fun _ => by kernel_rfl) ?_)
      refine Xg.ops_op (by kernel_rfl) (Xg.opx_pure (.bool (decide ((((↑i : Int)) : Int) ≥ ((↑s.length : Int))))) rfl (fun _ => by kernel_rfl) ?_)
      refine Xg.ops_flag (j := 9) (c := (decide ((↑i : Int) < (0 : Int)))) (by kernel_rfl) (fun xh1 => absurd (of_decide_eq_true xh1) (by omega)) (fun _ => ?_)
      refine Xg.ops_flag (j := 16) (c := (decide ((↑i : Int) ≥ (↑s.length : Int)))) (by kernel_rfl) (fun xh1 => absurd (of_decide_eq_true xh1) (by omega)) (fun _ => ?_)
      refine Xg.ops_op (by kernel_rfl) (Xg.opx_pure ((Value.bool false)) rfl (fun _ => by kernel_rfl) ?_)
      refine Xg.ops_op (by kernel_rfl) (Xg.opx_pure ((Value.bool false)) rfl (fun _ => by kernel_rfl) ?_)
      refine Xg.ops_op (by kernel_rfl) (Xg.opx_pure ((pv p 0)) rfl (fun _ => by kernel_rfl) ?_)
      refine Xg.ops_op (by kernel_rfl) (Xg.opx_pure ((pv p 0)) rfl (fun _ => by kernel_rfl) ?_)
      refine Xg.ops_op (by kernel_rfl) (Xg.opx_pure ((pv p 1)) rfl (fun _ => by kernel_rfl) ?_)
      refine Xg.ops_op (by kernel_rfl) (Xg.opx_load (b := p) (off := ((1 : Nat))) 0 (Value.slice sa s.length sc) rfl (by kernel_rfl) (by kernel_rfl) (by kernel_rfl) ?_)
      refine Xg.ops_op (by kernel_rfl) (Xg.opx_pure ((iv (↑i : Int))) rfl (fun _ => by kernel_rfl) ?_)
      refine Xg.ops_op (by kernel_rfl) (Xg.opx_ix_own (elem := 3) (kd := .i64) (e := ((↑i : Int))) 2 1 i i rfl (by kernel_rfl) (by kernel_rfl) (by kernel_rfl) (by kernel_rfl) rfl (by omega) (by omega) ?_)
      refine Xg.ops_op (by kernel_rfl) (Xg.opx_load_own (a := sa) (off := i) 2 (iv (s.getD i (0 : Int))) rfl (by kernel_rfl) (Xg.get_ints (by omega)) (by kernel_rfl) ?_)
      refine Xg.ops_op (by kernel_rfl) (Xg.opx_pure (.bool (decide (((s.getD i (0 : Int)) : Int) < ((0 : Int))))) rfl (fun _ => by kernel_rfl) ?_)
      refine Xg.ops_flag (j := 26) (c := (decide (s.getD i (0 : Int) < (0 : Int)))) (by kernel_rfl) (fun xh1 => absurd (of_decide_eq_true xh1) (by omega)) (fun _ => ?_)
      refine Xg.ops_op (by kernel_rfl) (Xg.opx_pure ((Value.bool false)) rfl (fun _ => by kernel_rfl) ?_)
      refine Xg.ops_nil ?_
      refine Xg.at_false (t := false) (by kernel_rfl) rfl ?_
      refine Xg.at_skip ?_
      refine Xg.at_seq ?_
      refine Xg.at_region ?_
      refine Xg.ops_op (by kernel_rfl) (Xg.opx_pure ((pv p 0)) rfl (fun _ => by kernel_rfl) ?_)
      refine Xg.ops_op (by kernel_rfl) (Xg.opx_pure ((pv p 0)) rfl (fun _ => by kernel_rfl) ?_)
      refine Xg.ops_op (by kernel_rfl) (Xg.opx_pure ((pv p 1)) rfl (fun _ => by kernel_rfl) ?_)
      refine Xg.ops_op (by kernel_rfl) (Xg.opx_load (b := p) (off := ((1 : Nat))) 0 (Value.slice sa s.length sc) rfl (by kernel_rfl) (by kernel_rfl) (by kernel_rfl) ?_)
      refine Xg.ops_op (by kernel_rfl) (Xg.opx_pure ((iv (↑i : Int))) rfl (fun _ => by kernel_rfl) ?_)
      refine Xg.ops_op (by kernel_rfl) (Xg.opx_ix_own (elem := 3) (kd := .i64) (e := ((↑i : Int))) 2 1 i i rfl (by kernel_rfl) (by kernel_rfl) (by kernel_rfl) (by kernel_rfl) rfl (by omega) (by omega) ?_)
      refine Xg.ops_op (by kernel_rfl) (Xg.opx_load_own (a := sa) (off := i) 2 (iv (s.getD i (0 : Int))) rfl (by kernel_rfl) (Xg.get_ints (by omega)) (by kernel_rfl) ?_)
      refine Xg.ops_op (by kernel_rfl) (Xg.opx_pure ((iv (s.getD i (0 : Int)))) rfl (fun _ => by kernel_rfl) ?_)
      refine Xg.ops_nil ?_
      refine Xg.at_seq ?_
      refine Xg.at_region ?_
      refine Xg.ops_op (by kernel_rfl) (Xg.opx_pure ((pv p 0)) rfl (fun _ => by kernel_rfl) ?_)
      refine Xg.ops_op (by kernel_rfl) (Xg.opx_pure ((pv p 0)) rfl (fun _ => by kernel_rfl) ?_)
      refine Xg.ops_op (by kernel_rfl) (Xg.opx_pure ((pv p 1)) rfl (fun _ => by kernel_rfl) ?_)
      refine Xg.ops_op (by kernel_rfl) (Xg.opx_load (b := p) (off := ((1 : Nat))) 0 (Value.slice sa s.length sc) rfl (by kernel_rfl) (by kernel_rfl) (by kernel_rfl) ?_)
      refine Xg.ops_op (by kernel_rfl) (Xg.opx_pure ((iv (↑i : Int))) rfl (fun _ => by kernel_rfl) ?_)
      refine Xg.ops_op (by kernel_rfl) (Xg.opx_ix_own (elem := 3) (kd := .i64) (e := ((↑i : Int))) 2 1 i i rfl (by kernel_rfl) (by kernel_rfl) (by kernel_rfl) (by kernel_rfl) rfl (by omega) (by omega) ?_)
      refine Xg.ops_op (by kernel_rfl) (Xg.opx_store_own_i (a := sa) (off := i) (kd := .i64) (xs := s) (e := ((-1 : Int))) 2 (by kernel_rfl) rfl (by kernel_rfl) (by kernel_rfl) (by first | omega | (simp only [List.length_set]; omega)) ?_)
      refine Xg.ops_nil ?_
      refine Xg.at_seq ?_
      refine Xg.at_region ?_
      refine Xg.ops_op (by kernel_rfl) (Xg.opx_pure ((iv (s.getD i (0 : Int)))) rfl (fun _ => by kernel_rfl) ?_)
      refine Xg.ops_op (by kernel_rfl) (Xg.opx_pure ((iv (s.getD i (0 : Int)))) rfl (fun _ => by kernel_rfl) ?_)
      refine Xg.ops_op (by kernel_rfl) (Xg.opx_pure ((iv 0)) rfl (fun _ => by kernel_rfl) ?_)
      refine Xg.ops_nil ?_
      refine Xg.at_ret_ps (v := (Value.tuple #[iv (s.getD i (0 : Int)), iv 0])) [0, 1, 2] [HdP p ra r.length rc sa s.length sc, RP ra rc r, ownS (3 : TypeId) (1 : Nat) (Value.slice sa s.length sc) s.length (List.map (Value.int IntKind.i64) (s.set i (-1 : Int)))] Go.Proofs.Try.func14 (fun _ => by kernel_rfl) (by kernel_rfl) (by kernel_rfl) ?_
      refine ⟨((ra, rc)), trivial, by kernel_rfl, ?_⟩)
    simp only [SP, Xg.ints, HdP, List.length_set]
end Go.Proofs.Ytijjficnhpokdaa

/- The sched package: Begin, Round, New. -/
namespace Go.Proofs.Ytijjficnhpokdaa
open Go.Sl Go.Xg
set_option linter.unusedVariables false
set_option linter.unusedSimpArgs false
set_option maxHeartbeats 4000000
set_option maxRecDepth 100000

/-- Whose turn is next: a place in the round. -/
def next (r : List (Int × Bool)) (s : List Int) : Int := fidx (free s) r
/-- What Begin answers; what it does. -/
def begV (r : List (Int × Bool)) (s : List Int) (slot : Int) : Value :=
  if slot < 0 ∨ (s.length : Int) ≤ slot ∨ 0 ≤ s.getD slot.toNat 0 then .tuple #[.int .i64 0, .int .i64 131]
  else if next r s < 0 then .tuple #[.int .i64 0, .int .i64 134]
  else .tuple #[.int .i64 (r.getD (next r s).toNat default).1, .int .i64 0]
abbrev begOk (r : List (Int × Bool)) (s : List Int) (slot : Int) : Prop := 0 ≤ slot ∧ slot < s.length ∧ s.getD slot.toNat 0 < 0 ∧ 0 ≤ next r s
def begR (r : List (Int × Bool)) (s : List Int) (slot : Int) : List (Int × Bool) := if 0 ≤ slot ∧ slot < s.length ∧ s.getD slot.toNat 0 < 0 ∧ 0 ≤ next r s then r.eraseIdx (next r s).toNat ++ [r.getD (next r s).toNat default] else r
def begS (r : List (Int × Bool)) (s : List Int) (slot : Int) : List Int := if 0 ≤ slot ∧ slot < s.length ∧ s.getD slot.toNat 0 < 0 ∧ 0 ≤ next r s then s.set slot.toNat (r.getD (next r s).toNat default).1 else s

theorem begin_d (p : Nat) (r : List (Int × Bool)) (s : List Int) (slot : Int) (h64 : r.length ≤ 64) : Does Try.prog 13 [.pointer (some ⟨p, 0, none⟩), .int .i64 slot] [SchedP p r s]
    (Ret (begV r s slot) [SchedP p (begR r s slot) (begS r s slot)]) := by
  refine closed fun ra rc sa sc => ?_
  have hE : Go.Proofs.Enters Try.prog 27 := enters_of Try.func27 (by kernel_rfl) rfl
  have hx := fun b => indexFunc_d 27 hE b (free s) (row b 29 [.pointer (some ⟨p, 0, none⟩)]) (HdP p ra r.length rc sa s.length sc) (SP sa sc s) ra rc r (fun x => beginT_d b p (RP ra rc r) ra sa r.length rc sc s x)
  have hg : -1 ≤ next r s ∧ next r s < r.length := fidx_ge r
  have hn0 : next r s = fidx (free s) r := rfl
  unfold begV begR begS
  obtain ⟨n, hn⟩ : ∃ n, next r s = n := ⟨_, rfl⟩
  rw [← hn0] at hx
  rw [hn] at hx hg ⊢
  clear hE hn hn0
  by_cases c1 : slot < 0
  · rw [if_pos (.inl c1), if_neg (by omega), if_neg (by omega)]
    (focus
      refine Xg.spec_of Go.Proofs.Try.func13 rfl Go.Proofs.Try.ntmps13 fun g F => ?_)
    (focus
      refine Xg.at_seq ?_
      refine Xg.at_region ?_
      refine Xg.ops_op (by kernel_rfl) (Xg.opx_box (v := (pv p 0)) [(pv p 0)] (by kernel_rfl) (by kernel_rfl) fun xb1 => ?_)
      refine Xg.ops_op (by kernel_rfl) (Xg.opx_pure ((iv 0)) rfl (fun _ => by kernel_rfl) ?_)
      refine Xg.ops_op (by kernel_rfl) (Xg.opx_pure ((iv 0)) rfl (fun _ => by kernel_rfl) ?_)
      refine Xg.ops_nil ?_
      refine Xg.at_seq ?_
      refine Xg.at_seq ?_
      refine Xg.at_region ?_
      refine Xg.ops_op (by kernel_rfl) (Xg.opx_pure ((iv slot)) rfl (fun _ => by kernel_rfl) ?_)
      refine Xg.ops_op (by kernel_rfl) (Xg.opx_pure (.bool (decide ((slot : Int) < ((0 : Int))))) rfl (fun _ => by kernel_rfl) ?_)
      refine Xg.ops_op (by kernel_rfl) (Xg.opx_pure ((Value.bool (decide (slot < (0 : Int))))) rfl (fun _ => by kernel_rfl) ?_)
      refine Xg.ops_flag (j := 10) (c := (decide (slot < (0 : Int)))) (by kernel_rfl) (fun _ => ?_) (fun xh1 => absurd (of_decide_eq_false xh1) (by omega))
      refine Xg.ops_skip (by kernel_rfl) ?_
      refine Xg.ops_skip (by kernel_rfl) ?_
      refine Xg.ops_skip (by kernel_rfl) ?_
      refine Xg.ops_skip (by kernel_rfl) ?_
      refine Xg.ops_skip (by kernel_rfl) ?_
      refine Xg.ops_skip (by kernel_rfl) ?_
      refine Xg.ops_skip (by kernel_rfl) ?_
      refine Xg.ops_op (by kernel_rfl) (Xg.opx_pure ((Value.bool true)) rfl (fun _ => by kernel_rfl) ?_)
      refine Xg.ops_op (by kernel_rfl) (Xg.opx_pure ((Value.bool true)) rfl (fun _ => by kernel_rfl) ?_)
      refine Xg.ops_skip (by kernel_rfl) ?_
      refine Xg.ops_skip (by kernel_rfl) ?_
      refine Xg.ops_skip (by kernel_rfl) ?_
      refine Xg.ops_skip (by kernel_rfl) ?_
      refine Xg.ops_skip (by kernel_rfl) ?_
      refine Xg.ops_skip (by kernel_rfl) ?_
      refine Xg.ops_skip (by kernel_rfl) ?_
      refine Xg.ops_skip (by kernel_rfl) ?_
      refine Xg.ops_op (by kernel_rfl) (Xg.opx_pure ((Value.bool true)) rfl (fun _ => by kernel_rfl) ?_)
      refine Xg.ops_nil ?_
      refine Xg.at_true (t := true) (by kernel_rfl) rfl ?_
      refine Xg.at_seq ?_
      refine Xg.at_region ?_
      refine Xg.ops_op (by kernel_rfl) (Xg.opx_pure ((iv 0)) rfl (fun _ => by kernel_rfl) ?_)
      refine Xg.ops_op (by kernel_rfl) (Xg.opx_pure ((iv 131)) rfl (fun _ => by kernel_rfl) ?_)
      refine Xg.ops_nil ?_
      refine Xg.at_ret_ps (v := (Value.tuple #[iv 0, iv 131])) [1, 2, 3] [HdP p ra r.length rc sa s.length sc, RP ra rc r, SP sa sc s] Go.Proofs.Try.func13 (fun _ => by kernel_rfl) (by kernel_rfl) (by kernel_rfl) ?_
      refine ⟨((ra, rc)), trivial, by kernel_rfl, by kernel_rfl⟩)
  by_cases c2 : (s.length : Int) ≤ slot
  · rw [if_pos (.inr (.inl c2)), if_neg (by omega), if_neg (by omega)]
    (focus
      refine Xg.spec_of Go.Proofs.Try.func13 rfl Go.Proofs.Try.ntmps13 fun g F => ?_)
    (focus
      refine Xg.at_seq ?_
      refine Xg.at_region ?_
      refine Xg.ops_op (by kernel_rfl) (Xg.opx_box (v := (pv p 0)) [(pv p 0)] (by kernel_rfl) (by kernel_rfl) fun xb1 => ?_)
      refine Xg.ops_op (by kernel_rfl) (Xg.opx_pure ((iv 0)) rfl (fun _ => by kernel_rfl) ?_)
      refine Xg.ops_op (by kernel_rfl) (Xg.opx_pure ((iv 0)) rfl (fun _ => by kernel_rfl) ?_)
      refine Xg.ops_nil ?_
      refine Xg.at_seq ?_
      refine Xg.at_seq ?_
      refine Xg.at_region ?_
      refine Xg.ops_op (by kernel_rfl) (Xg.opx_pure ((iv slot)) rfl (fun _ => by kernel_rfl) ?_)
      refine Xg.ops_op (by kernel_rfl) (Xg.opx_pure (.bool (decide ((slot : Int) < ((0 : Int))))) rfl (fun _ => by kernel_rfl) ?_)
      refine Xg.ops_op (by kernel_rfl) (Xg.opx_pure ((Value.bool (decide (slot < (0 : Int))))) rfl (fun _ => by kernel_rfl) ?_)
      refine Xg.ops_flag (j := 10) (c := (decide (slot < (0 : Int)))) (by kernel_rfl) (fun xh1 => absurd (of_decide_eq_true xh1) (by omega)) (fun _ => ?_)
      refine Xg.ops_op (by kernel_rfl) (Xg.opx_pure ((iv slot)) rfl (fun _ => by kernel_rfl) ?_)
      refine Xg.ops_op (by kernel_rfl) (Xg.opx_load (b := xb1) (off := ((0 : Nat))) 0 (pv p 0) rfl (by kernel_rfl) (by kernel_rfl) (by kernel_rfl) ?_)
      refine Xg.ops_op (by kernel_rfl) (Xg.opx_pure ((pv p 0)) rfl (fun _ => by kernel_rfl) ?_)
      refine Xg.ops_op (by kernel_rfl) (Xg.opx_pure ((pv p 1)) rfl (fun _ => by kernel_rfl) ?_)
      refine Xg.ops_op (by kernel_rfl) (Xg.opx_load (b := p) (off := ((1 : Nat))) 1 (Value.slice sa s.length sc) rfl (by kernel_rfl) (by kernel_rfl) (by kernel_rfl) ?_)
      refine Xg.ops_op (by kernel_rfl) (Xg.opx_pure ((iv (↑s.length : Int))) rfl (fun _ => by kernel_rfl) ?_)
      refine Xg.ops_op (by kernel_rfl) (Xg.opx_pure (.bool (decide ((slot : Int) ≥ ((↑s.length : Int))))) rfl (fun _ => by kernel_rfl) ?_)
      refine Xg.ops_flag (j := 17) (c := (decide (slot ≥ (↑s.length : Int)))) (by kernel_rfl) (fun _ => ?_) (fun xh1 => absurd (of_decide_eq_false xh1) (by omega))
      refine Xg.ops_op (by kernel_rfl) (Xg.opx_pure ((Value.bool true)) rfl (fun _ => by kernel_rfl) ?_)
      refine Xg.ops_op (by kernel_rfl) (Xg.opx_pure ((Value.bool true)) rfl (fun _ => by kernel_rfl) ?_)
      refine Xg.ops_skip (by kernel_rfl) ?_
      refine Xg.ops_skip (by kernel_rfl) ?_
      refine Xg.ops_skip (by kernel_rfl) ?_
      refine Xg.ops_skip (by kernel_rfl) ?_
      refine Xg.ops_skip (by kernel_rfl) ?_
      refine Xg.ops_skip (by kernel_rfl) ?_
      refine Xg.ops_skip (by kernel_rfl) ?_
      refine Xg.ops_skip (by kernel_rfl) ?_
      refine Xg.ops_op (by kernel_rfl) (Xg.opx_pure ((Value.bool true)) rfl (fun _ => by kernel_rfl) ?_)
      refine Xg.ops_nil ?_
      refine Xg.at_true (t := true) (by kernel_rfl) rfl ?_
      refine Xg.at_seq ?_
      refine Xg.at_region ?_
      refine Xg.ops_op (by kernel_rfl) (Xg.opx_pure ((iv 0)) rfl (fun _ => by kernel_rfl) ?_)
      refine Xg.ops_op (by kernel_rfl) (Xg.opx_pure ((iv 131)) rfl (fun _ => by kernel_rfl) ?_)
      refine Xg.ops_nil ?_
      refine Xg.at_ret_ps (v := (Value.tuple #[iv 0, iv 131])) [1, 2, 3] [HdP p ra r.length rc sa s.length sc, RP ra rc r, SP sa sc s] Go.Proofs.Try.func13 (fun _ => by kernel_rfl) (by kernel_rfl) (by kernel_rfl) ?_
      refine ⟨((ra, rc)), trivial, by kernel_rfl, by kernel_rfl⟩)
  obtain ⟨k, rfl⟩ : ∃ k : Nat, slot = k := ⟨slot.toNat, by omega⟩
  rw [Int.toNat_natCast]
  by_cases c3 : 0 ≤ s.getD k 0
  · rw [if_pos (.inr (.inr c3)), if_neg (by omega), if_neg (by omega)]
    (focus
      refine Xg.spec_of Go.Proofs.Try.func13 rfl Go.Proofs.Try.ntmps13 fun g F => ?_)
    (focus
      refine Xg.at_seq ?_
      refine Xg.at_region ?_
      refine Xg.ops_op (by kernel_rfl) (Xg.opx_box (v := (pv p 0)) [(pv p 0)] (by kernel_rfl) (by kernel_rfl) fun xb1 => ?_)
      refine Xg.ops_op (by kernel_rfl) (Xg.opx_pure ((iv 0)) rfl (fun _ => by kernel_rfl) ?_)
      refine Xg.ops_op (by kernel_rfl) (Xg.opx_pure ((iv 0)) rfl (fun _ => by kernel_rfl) ?_)
      refine Xg.ops_nil ?_
      refine Xg.at_seq ?_
      refine Xg.at_seq ?_
      refine Xg.at_region ?_
      refine Xg.ops_op (by kernel_rfl) (Xg.opx_pure ((iv (↑k : Int))) rfl (fun _ => by kernel_rfl) ?_)
      refine Xg.ops_op (by kernel_rfl) (Xg.opx_pure (.bool (decide ((((↑k : Int)) : Int) < ((0 : Int))))) rfl (fun _ => by kernel_rfl) ?_)
      refine Xg.ops_op (by kernel_rfl) (Xg.opx_pure ((Value.bool (decide ((↑k : Int) < (0 : Int))))) rfl (fun _ => by kernel_rfl) ?_)
      refine Xg.ops_op (by kernel_rfl) (Xg.opx_pure ((iv (↑k : Int))) rfl (fun _ => by kernel_rfl) ?_)
      refine Xg.ops_op (by kernel_rfl) (Xg.opx_load (b := xb1) (off := ((0 : Nat))) 0 (pv p 0) rfl (by kernel_rfl) (by kernel_rfl) (by kernel_rfl) ?_)
      refine Xg.ops_op (by kernel_rfl) (Xg.opx_pure ((pv p 0)) rfl (fun _ => by kernel_rfl) ?_)
      refine Xg.ops_op (by kernel_rfl) (Xg.opx_pure ((pv p 1)) rfl (fun _ => by kernel_rfl) ?_)
      refine Xg.ops_op (by kernel_rfl) (Xg.opx_load (b := p) (off := ((1 : Nat))) 1 (Value.slice sa s.length sc) rfl (by kernel_rfl) (by kernel_rfl) (by kernel_rfl) ?_)
      refine Xg.ops_op (by kernel_rfl) (Xg.opx_pure ((iv (↑s.length : Int))) rfl (fun _ => by kernel_rfl) ?_)
      refine Xg.ops_op (by kernel_rfl) (Xg.opx_pure (.bool (decide ((((↑k : Int)) : Int) ≥ ((↑s.length : Int))))) rfl (fun _ => by kernel_rfl) ?_)
      refine Xg.ops_flag (j := 10) (c := (decide ((↑k : Int) < (0 : Int)))) (by kernel_rfl) (fun xh1 => absurd (of_decide_eq_true xh1) (by omega)) (fun _ => ?_)
      refine Xg.ops_flag (j := 17) (c := (decide ((↑k : Int) ≥ (↑s.length : Int)))) (by kernel_rfl) (fun xh1 => absurd (of_decide_eq_true xh1) (by omega)) (fun _ => ?_)
      refine Xg.ops_op (by kernel_rfl) (Xg.opx_pure ((Value.bool false)) rfl (fun _ => by kernel_rfl) ?_)
      refine Xg.ops_op (by kernel_rfl) (Xg.opx_pure ((Value.bool false)) rfl (fun _ => by kernel_rfl) ?_)
      refine Xg.ops_op (by kernel_rfl) (Xg.opx_load (b := xb1) (off := ((0 : Nat))) 0 (pv p 0) rfl (by kernel_rfl) (by kernel_rfl) (by kernel_rfl) ?_)
      refine Xg.ops_op (by kernel_rfl) (Xg.opx_pure ((pv p 0)) rfl (fun _ => by kernel_rfl) ?_)
      refine Xg.ops_op (by kernel_rfl) (Xg.opx_pure ((pv p 1)) rfl (fun _ => by kernel_rfl) ?_)
      refine Xg.ops_op (by kernel_rfl) (Xg.opx_load (b := p) (off := ((1 : Nat))) 1 (Value.slice sa s.length sc) rfl (by kernel_rfl) (by kernel_rfl) (by kernel_rfl) ?_)
      refine Xg.ops_op (by kernel_rfl) (Xg.opx_pure ((iv (↑k : Int))) rfl (fun _ => by kernel_rfl) ?_)
      refine Xg.ops_op (by kernel_rfl) (Xg.opx_ix_own (elem := 3) (kd := .i64) (e := ((↑k : Int))) 3 1 k k rfl (by kernel_rfl) (by kernel_rfl) (by kernel_rfl) (by kernel_rfl) rfl (by omega) (by omega) ?_)
      refine Xg.ops_op (by kernel_rfl) (Xg.opx_load_own (a := sa) (off := k) 3 (iv (s.getD k (0 : Int))) rfl (by kernel_rfl) (Xg.get_ints (by omega)) (by kernel_rfl) ?_)
      refine Xg.ops_op (by kernel_rfl) (Xg.opx_pure (.bool (decide (((s.getD k (0 : Int)) : Int) ≥ ((0 : Int))))) rfl (fun _ => by kernel_rfl) ?_)
      refine Xg.ops_flag (j := 27) (c := (decide (s.getD k (0 : Int) ≥ (0 : Int)))) (by kernel_rfl) (fun _ => ?_) (fun xh1 => absurd (of_decide_eq_false xh1) (by omega))
      refine Xg.ops_op (by kernel_rfl) (Xg.opx_pure ((Value.bool true)) rfl (fun _ => by kernel_rfl) ?_)
      refine Xg.ops_nil ?_
      refine Xg.at_true (t := true) (by kernel_rfl) rfl ?_
      refine Xg.at_seq ?_
      refine Xg.at_region ?_
      refine Xg.ops_op (by kernel_rfl) (Xg.opx_pure ((iv 0)) rfl (fun _ => by kernel_rfl) ?_)
      refine Xg.ops_op (by kernel_rfl) (Xg.opx_pure ((iv 131)) rfl (fun _ => by kernel_rfl) ?_)
      refine Xg.ops_nil ?_
      refine Xg.at_ret_ps (v := (Value.tuple #[iv 0, iv 131])) [1, 2, 3] [HdP p ra r.length rc sa s.length sc, RP ra rc r, SP sa sc s] Go.Proofs.Try.func13 (fun _ => by kernel_rfl) (by kernel_rfl) (by kernel_rfl) ?_
      refine ⟨((ra, rc)), trivial, by kernel_rfl, by kernel_rfl⟩)
  by_cases c4 : n < 0
  · rw [if_neg (by omega), if_pos c4, if_neg (by omega), if_neg (by omega)]
    (focus
      refine Xg.spec_of Go.Proofs.Try.func13 rfl Go.Proofs.Try.ntmps13 fun g F => ?_)
    (focus
      refine Xg.at_seq ?_
      refine Xg.at_region ?_
      refine Xg.ops_op (by kernel_rfl) (Xg.opx_box (v := (pv p 0)) [(pv p 0)] (by kernel_rfl) (by kernel_rfl) fun xb1 => ?_)
      refine Xg.ops_op (by kernel_rfl) (Xg.opx_pure ((iv 0)) rfl (fun _ => by kernel_rfl) ?_)
      refine Xg.ops_op (by kernel_rfl) (Xg.opx_pure ((iv 0)) rfl (fun _ => by kernel_rfl) ?_)
      refine Xg.ops_nil ?_
      refine Xg.at_seq ?_
      refine Xg.at_seq ?_
      refine Xg.at_region ?_
      refine Xg.ops_op (by kernel_rfl) (Xg.opx_pure ((iv (↑k : Int))) rfl (fun _ => by kernel_rfl) ?_)
      refine Xg.ops_op (by kernel_rfl) (Xg.opx_pure (.bool (decide ((((↑k : Int)) : Int) < ((0 : Int))))) rfl (fun _ => by kernel_rfl) ?_)
      refine Xg.ops_op (by kernel_rfl) (Xg.opx_pure ((Value.bool (decide ((↑k : Int) < (0 : Int))))) rfl (fun _ => by kernel_rfl) ?_)
      refine Xg.ops_op (by kernel_rfl) (Xg.opx_pure ((iv (↑k : Int))) rfl (fun _ => by kernel_rfl) ?_)
      refine Xg.ops_op (by kernel_rfl) (Xg.opx_load (b := xb1) (off := ((0 : Nat))) 0 (pv p 0) rfl (by kernel_rfl) (by kernel_rfl) (by kernel_rfl) ?_)
      refine Xg.ops_op (by kernel_rfl) (Xg.opx_pure ((pv p 0)) rfl (fun _ => by kernel_rfl) ?_)
      refine Xg.ops_op (by kernel_rfl) (Xg.opx_pure ((pv p 1)) rfl (fun _ => by kernel_rfl) ?_)
      refine Xg.ops_op (by kernel_rfl) (Xg.opx_load (b := p) (off := ((1 : Nat))) 1 (Value.slice sa s.length sc) rfl (by kernel_rfl) (by kernel_rfl) (by kernel_rfl) ?_)
      refine Xg.ops_op (by kernel_rfl) (Xg.opx_pure ((iv (↑s.length : Int))) rfl (fun _ => by kernel_rfl) ?_)
      refine Xg.ops_op (by kernel_rfl) (Xg.opx_pure (.bool (decide ((((↑k : Int)) : Int) ≥ ((↑s.length : Int))))) rfl (fun _ => by kernel_rfl) ?_)
      refine Xg.ops_flag (j := 10) (c := (decide ((↑k : Int) < (0 : Int)))) (by kernel_rfl) (fun xh1 => absurd (of_decide_eq_true xh1) (by omega)) (fun _ => ?_)
      refine Xg.ops_flag (j := 17) (c := (decide ((↑k : Int) ≥ (↑s.length : Int)))) (by kernel_rfl) (fun xh1 => absurd (of_decide_eq_true xh1) (by omega)) (fun _ => ?_)
      refine Xg.ops_op (by kernel_rfl) (Xg.opx_pure ((Value.bool false)) rfl (fun _ => by kernel_rfl) ?_)
      refine Xg.ops_op (by kernel_rfl) (Xg.opx_pure ((Value.bool false)) rfl (fun _ => by kernel_rfl) ?_)
      refine Xg.ops_op (by kernel_rfl) (Xg.opx_load (b := xb1) (off := ((0 : Nat))) 0 (pv p 0) rfl (by kernel_rfl) (by kernel_rfl) (by kernel_rfl) ?_)
      refine Xg.ops_op (by kernel_rfl) (Xg.opx_pure ((pv p 0)) rfl (fun _ => by kernel_rfl) ?_)
      refine Xg.ops_op (by kernel_rfl) (Xg.opx_pure ((pv p 1)) rfl (fun _ => by kernel_rfl) ?_)
      refine Xg.ops_op (by kernel_rfl) (Xg.opx_load (b := p) (off := ((1 : Nat))) 1 (Value.slice sa s.length sc) rfl (by kernel_rfl) (by kernel_rfl) (by kernel_rfl) ?_)
      refine Xg.ops_op (by kernel_rfl) (Xg.opx_pure ((iv (↑k : Int))) rfl (fun _ => by kernel_rfl) ?_)
      refine Xg.ops_op (by kernel_rfl) (Xg.opx_ix_own (elem := 3) (kd := .i64) (e := ((↑k : Int))) 3 1 k k rfl (by kernel_rfl) (by kernel_rfl) (by kernel_rfl) (by kernel_rfl) rfl (by omega) (by omega) ?_)
      refine Xg.ops_op (by kernel_rfl) (Xg.opx_load_own (a := sa) (off := k) 3 (iv (s.getD k (0 : Int))) rfl (by kernel_rfl) (Xg.get_ints (by omega)) (by kernel_rfl) ?_)
      refine Xg.ops_op (by kernel_rfl) (Xg.opx_pure (.bool (decide (((s.getD k (0 : Int)) : Int) ≥ ((0 : Int))))) rfl (fun _ => by kernel_rfl) ?_)
      refine Xg.ops_flag (j := 27) (c := (decide (s.getD k (0 : Int) ≥ (0 : Int)))) (by kernel_rfl) (fun xh1 => absurd (of_decide_eq_true xh1) (by omega)) (fun _ => ?_)
      refine Xg.ops_op (by kernel_rfl) (Xg.opx_pure ((Value.bool false)) rfl (fun _ => by kernel_rfl) ?_)
      refine Xg.ops_nil ?_
      refine Xg.at_false (t := false) (by kernel_rfl) rfl ?_
      refine Xg.at_skip ?_
      refine Xg.at_seq ?_
      refine Xg.at_region ?_
      refine Xg.ops_op (by kernel_rfl) (Xg.opx_load (b := xb1) (off := ((0 : Nat))) 0 (pv p 0) rfl (by kernel_rfl) (by kernel_rfl) (by kernel_rfl) ?_)
      refine Xg.ops_op (by kernel_rfl) (Xg.opx_pure ((pv p 0)) rfl (fun _ => by kernel_rfl) ?_)
      refine Xg.ops_op (by kernel_rfl) (Xg.opx_pure ((pv p 0)) rfl (fun _ => by kernel_rfl) ?_)
      refine Xg.ops_op (by kernel_rfl) (Xg.opx_load (b := p) (off := ((0 : Nat))) 1 (Value.slice ra r.length rc) rfl (by kernel_rfl) (by kernel_rfl) (by kernel_rfl) ?_)
      refine Xg.ops_op (by kernel_rfl) (Xg.opx_pure ((Value.func (Fn.func (27 : Nat)) #[] #[pv xb1 0])) rfl (fun _ => by kernel_rfl) ?_)
      refine Xg.ops_op (by kernel_rfl) (Xg.opx_call1' [2, 0, 1, 3] [RP ra rc r, row xb1 (29 : TypeId) [pv p 0], HdP p ra r.length rc sa s.length sc, SP sa sc s] (fun _ => by kernel_rfl) (@hx (xb1)) (by kernel_rfl) (by kernel_rfl) (by kernel_rfl) ?_)
      refine Xg.ops_op (by kernel_rfl) (Xg.opx_pure ((iv n)) rfl (fun _ => by kernel_rfl) ?_)
      refine Xg.ops_nil ?_
      refine Xg.at_seq ?_
      refine Xg.at_seq ?_
      refine Xg.at_region ?_
      refine Xg.ops_op (by kernel_rfl) (Xg.opx_pure ((iv n)) rfl (fun _ => by kernel_rfl) ?_)
      refine Xg.ops_op (by kernel_rfl) (Xg.opx_pure (.bool (decide ((n : Int) < ((0 : Int))))) rfl (fun _ => by kernel_rfl) ?_)
      refine Xg.ops_nil ?_
      refine Xg.at_true (t := decide ((n < (0 : Int)))) (by kernel_rfl) (decide_eq_true (by omega)) ?_
      refine Xg.at_seq ?_
      refine Xg.at_region ?_
      refine Xg.ops_op (by kernel_rfl) (Xg.opx_pure ((iv 0)) rfl (fun _ => by kernel_rfl) ?_)
      refine Xg.ops_op (by kernel_rfl) (Xg.opx_pure ((iv 134)) rfl (fun _ => by kernel_rfl) ?_)
      refine Xg.ops_nil ?_
      refine Xg.at_ret_ps (v := (Value.tuple #[iv 0, iv 134])) [2, 0, 3] [HdP p ra r.length rc sa s.length sc, RP ra rc r, SP sa sc s] Go.Proofs.Try.func13 (fun _ => by kernel_rfl) (by kernel_rfl) (by kernel_rfl) ?_
      refine ⟨((ra, rc)), trivial, by kernel_rfl, by kernel_rfl⟩)
  · rw [if_neg (by omega), if_neg c4, if_pos (by omega), if_pos (by omega)]
    obtain ⟨i, rfl⟩ : ∃ i : Nat, n = i := ⟨n.toNat, by omega⟩
    have hi : i < r.length := by omega
    have hd := delete_d ra rc r i hi
    rw [Int.toNat_natCast]
    have hl : (r.eraseIdx i).length = r.length - 1 := by rw [List.length_eraseIdx, if_pos hi]
    (focus
      refine Xg.spec_of Go.Proofs.Try.func13 rfl Go.Proofs.Try.ntmps13 fun g F => ?_)
    refine Xg.at_off 2 rfl (by omega) fun hoff => ?_
    (focus
      refine Xg.at_seq ?_
      refine Xg.at_region ?_
      refine Xg.ops_op (by kernel_rfl) (Xg.opx_box (v := (pv p 0)) [(pv p 0)] (by kernel_rfl) (by kernel_rfl) fun xb1 => ?_)
      refine Xg.ops_op (by kernel_rfl) (Xg.opx_pure ((iv 0)) rfl (fun _ => by kernel_rfl) ?_)
      refine Xg.ops_op (by kernel_rfl) (Xg.opx_pure ((iv 0)) rfl (fun _ => by kernel_rfl) ?_)
      refine Xg.ops_nil ?_
      refine Xg.at_seq ?_
      refine Xg.at_seq ?_
      refine Xg.at_region ?_
      refine Xg.ops_op (by kernel_rfl) (Xg.opx_pure ((iv (↑k : Int))) rfl (fun _ => by kernel_rfl) ?_)
      refine Xg.ops_op (by kernel_rfl) (Xg.opx_pure (.bool (decide ((((↑k : Int)) : Int) < ((0 : Int))))) rfl (fun _ => by kernel_rfl) ?_)
      refine Xg.ops_op (by kernel_rfl) (Xg.opx_pure ((Value.bool (decide ((↑k : Int) < (0 : Int))))) rfl (fun _ => by kernel_rfl) ?_)
      refine Xg.ops_op (by kernel_rfl) (Xg.opx_pure ((iv (↑k : Int))) rfl (fun _ => by kernel_rfl) ?_)
      refine Xg.ops_op (by kernel_rfl) (Xg.opx_load (b := xb1) (off := ((0 : Nat))) 0 (pv p 0) rfl (by kernel_rfl) (by kernel_rfl) (by kernel_rfl) ?_)
      refine Xg.ops_op (by kernel_rfl) (Xg.opx_pure ((pv p 0)) rfl (fun _ => by kernel_rfl) ?_)
      refine Xg.ops_op (by kernel_rfl) (Xg.opx_pure ((pv p 1)) rfl (fun _ => by kernel_rfl) ?_)
      refine Xg.ops_op (by kernel_rfl) (Xg.opx_load (b := p) (off := ((1 : Nat))) 1 (Value.slice sa s.length sc) rfl (by kernel_rfl) (by kernel_rfl) (by kernel_rfl) ?_)
      refine Xg.ops_op (by kernel_rfl) (Xg.opx_pure ((iv (↑s.length : Int))) rfl (fun _ => by kernel_rfl) ?_)
      refine Xg.ops_op (by kernel_rfl) (Xg.opx_pure (.bool (decide ((((↑k : Int)) : Int) ≥ ((↑s.length : Int))))) rfl (fun _ => by kernel_rfl) ?_)
      refine Xg.ops_flag (j := 10) (c := (decide ((↑k : Int) < (0 : Int)))) (by kernel_rfl) (fun xh1 => absurd (of_decide_eq_true xh1) (by omega)) (fun _ => ?_)
      refine Xg.ops_flag (j := 17) (c := (decide ((↑k : Int) ≥ (↑s.length : Int)))) (by kernel_rfl) (fun xh1 => absurd (of_decide_eq_true xh1) (by omega)) (fun _ => ?_)
      refine Xg.ops_op (by kernel_rfl) (Xg.opx_pure ((Value.bool false)) rfl (fun _ => by kernel_rfl) ?_)
      refine Xg.ops_op (by kernel_rfl) (Xg.opx_pure ((Value.bool false)) rfl (fun _ => by kernel_rfl) ?_)
      refine Xg.ops_op (by kernel_rfl) (Xg.opx_load (b := xb1) (off := ((0 : Nat))) 0 (pv p 0) rfl (by kernel_rfl) (by kernel_rfl) (by kernel_rfl) ?_)
      refine Xg.ops_op (by kernel_rfl) (Xg.opx_pure ((pv p 0)) rfl (fun _ => by kernel_rfl) ?_)
      refine Xg.ops_op (by kernel_rfl) (Xg.opx_pure ((pv p 1)) rfl (fun _ => by kernel_rfl) ?_)
      refine Xg.ops_op (by kernel_rfl) (Xg.opx_load (b := p) (off := ((1 : Nat))) 1 (Value.slice sa s.length sc) rfl (by kernel_rfl) (by kernel_rfl) (by kernel_rfl) ?_)
      refine Xg.ops_op (by kernel_rfl) (Xg.opx_pure ((iv (↑k : Int))) rfl (fun _ => by kernel_rfl) ?_)
      refine Xg.ops_op (by kernel_rfl) (Xg.opx_ix_own (elem := 3) (kd := .i64) (e := ((↑k : Int))) 3 1 k k rfl (by kernel_rfl) (by kernel_rfl) (by kernel_rfl) (by kernel_rfl) rfl (by omega) (by omega) ?_)
      refine Xg.ops_op (by kernel_rfl) (Xg.opx_load_own (a := sa) (off := k) 3 (iv (s.getD k (0 : Int))) rfl (by kernel_rfl) (Xg.get_ints (by omega)) (by kernel_rfl) ?_)
      refine Xg.ops_op (by kernel_rfl) (Xg.opx_pure (.bool (decide (((s.getD k (0 : Int)) : Int) ≥ ((0 : Int))))) rfl (fun _ => by kernel_rfl) ?_)
      refine Xg.ops_flag (j := 27) (c := (decide (s.getD k (0 : Int) ≥ (0 : Int)))) (by kernel_rfl) (fun xh1 => absurd (of_decide_eq_true xh1) (by omega)) (fun _ => ?_)
      refine Xg.ops_op (by kernel_rfl) (Xg.opx_pure ((Value.bool false)) rfl (fun _ => by kernel_rfl) ?_)
      refine Xg.ops_nil ?_
      refine Xg.at_false (t := false) (by kernel_rfl) rfl ?_
      refine Xg.at_skip ?_
      refine Xg.at_seq ?_
      refine Xg.at_region ?_
      refine Xg.ops_op (by kernel_rfl) (Xg.opx_load (b := xb1) (off := ((0 : Nat))) 0 (pv p 0) rfl (by kernel_rfl) (by kernel_rfl) (by kernel_rfl) ?_)
      refine Xg.ops_op (by kernel_rfl) (Xg.opx_pure ((pv p 0)) rfl (fun _ => by kernel_rfl) ?_)
      refine Xg.ops_op (by kernel_rfl) (Xg.opx_pure ((pv p 0)) rfl (fun _ => by kernel_rfl) ?_)
      refine Xg.ops_op (by kernel_rfl) (Xg.opx_load (b := p) (off := ((0 : Nat))) 1 (Value.slice ra r.length rc) rfl (by kernel_rfl) (by kernel_rfl) (by kernel_rfl) ?_)
      refine Xg.ops_op (by kernel_rfl) (Xg.opx_pure ((Value.func (Fn.func (27 : Nat)) #[] #[pv xb1 0])) rfl (fun _ => by kernel_rfl) ?_)
      refine Xg.ops_op (by kernel_rfl) (Xg.opx_call1' [2, 0, 1, 3] [RP ra rc r, row xb1 (29 : TypeId) [pv p 0], HdP p ra r.length rc sa s.length sc, SP sa sc s] (fun _ => by kernel_rfl) (@hx (xb1)) (by kernel_rfl) (by kernel_rfl) (by kernel_rfl) ?_)
      refine Xg.ops_op (by kernel_rfl) (Xg.opx_pure ((iv (↑i : Int))) rfl (fun _ => by kernel_rfl) ?_)
      refine Xg.ops_nil ?_
      refine Xg.at_seq ?_
      refine Xg.at_seq ?_
      refine Xg.at_region ?_
      refine Xg.ops_op (by kernel_rfl) (Xg.opx_pure ((iv (↑i : Int))) rfl (fun _ => by kernel_rfl) ?_)
      refine Xg.ops_op (by kernel_rfl) (Xg.opx_pure (.bool (decide ((((↑i : Int)) : Int) < ((0 : Int))))) rfl (fun _ => by kernel_rfl) ?_)
      refine Xg.ops_nil ?_
      refine Xg.at_false (t := false) (by kernel_rfl) rfl ?_
      refine Xg.at_skip ?_
      refine Xg.at_seq ?_
      refine Xg.at_region ?_
      refine Xg.ops_op (by kernel_rfl) (Xg.opx_load (b := xb1) (off := ((0 : Nat))) 1 (pv p 0) rfl (by kernel_rfl) (by kernel_rfl) (by kernel_rfl) ?_)
      refine Xg.ops_op (by kernel_rfl) (Xg.opx_pure ((pv p 0)) rfl (fun _ => by kernel_rfl) ?_)
      refine Xg.ops_op (by kernel_rfl) (Xg.opx_pure ((pv p 0)) rfl (fun _ => by kernel_rfl) ?_)
      refine Xg.ops_op (by kernel_rfl) (Xg.opx_load (b := p) (off := ((0 : Nat))) 2 (Value.slice ra r.length rc) rfl (by kernel_rfl) (by kernel_rfl) (by kernel_rfl) ?_)
      refine Xg.ops_op (by kernel_rfl) (Xg.opx_pure ((iv (↑i : Int))) rfl (fun _ => by kernel_rfl) ?_)
      refine Xg.ops_op (by kernel_rfl) (Xg.opx_ix_own (elem := 65) (kd := .i64) (e := ((↑i : Int))) 0 2 i (i * (2 : Nat)) rfl (by kernel_rfl) (by kernel_rfl) (by kernel_rfl) (by kernel_rfl) rfl (by omega) (by omega) ?_)
      refine Xg.ops_op (by kernel_rfl) (Xg.opx_loadn_own (a := ra) (off := (i * (2 : Nat))) 2 0 [iv (r.getD i default).fst, Value.bool (r.getD i default).snd] (by kernel_rfl) rfl (by kernel_rfl) rfl (Xg.recs_at' (wd := 2) (fun _ => rfl) default i (by omega) (by omega) (by kernel_rfl)) (by kernel_rfl) ?_)
      refine Xg.ops_op (by kernel_rfl) (Xg.opx_new 2 [iv 0, Value.bool false] (by kernel_rfl) (by kernel_rfl) fun xb2 => ?_)
      refine Xg.ops_op (by kernel_rfl) (Xg.opx_storen 2 (off := 0) 0 [iv (r.getD i default).fst, Value.bool (r.getD i default).snd] (by kernel_rfl) rfl (by kernel_rfl) (by kernel_rfl) rfl (by kernel_rfl) (Nat.le_of_ble_eq_true (by kernel_rfl)) ?_)
      refine Xg.ops_nil ?_
      refine Xg.at_seq ?_)
    generalize r.getD i default = m
    obtain ⟨m1, m2⟩ := m
    dsimp only
    (focus
      refine Xg.at_cut (α := (Option Addr × Nat) × (Nat → Value)) (fun x9 => ((fun x => True) : (Option Addr × Nat) → Prop) x9.1) (fun x9 => Xg.headT [pv p 0, iv (↑k : Int), pv xb1 0, tu, iv 0, iv 0, iv (↑i : Int), pv xb2 0, iv (↑k : Int), Value.bool (decide ((↑k : Int) < (0 : Int))), Value.bool false, iv (↑k : Int), pv p 0, pv p 0, pv p 1, Value.slice sa s.length sc, iv (↑s.length : Int), Value.bool false, Value.bool false, Value.bool false, pv p 0, pv p 0, pv p 1, Value.slice sa s.length sc, iv (↑k : Int), Value.pointer (some (Addr.mk (blk sa) k none)), iv (s.getD k (0 : Int)), Value.bool false, Value.bool false, pv p 0, pv p 0, pv p 0, Value.slice ra r.length rc, Value.func (Fn.func (27 : Nat)) #[] #[pv xb1 0], iv (↑i : Int), iv (↑i : Int), Value.bool (decide ((↑i : Int) < (0 : Int))), pv p 0, pv p 0, pv p 0, Value.slice ra r.length rc, iv (↑i : Int), Value.pointer (some (Addr.mk (blk ra) (i * (2 : Nat)) none)), Value.agg #[iv m1, Value.bool m2], tu, tu, tu, tu, tu, tu, tu, tu, tu, tu, tu, tu, tu, tu, tu, tu, tu, tu, tu, tu, tu, tu, tu, tu] [44, 45, 46, 47, 48, 49, 50, 51, 52, 53, 54, 55, 56, 57] (((fun x => []) : (Option Addr × Nat) → List (Nat × Go.Value)) x9.1) x9.2) (fun x9 => ((fun x => [HdP p x.1 (r.eraseIdx i ++ [(m1, m2)]).length x.2 sa s.length sc, RP x.1 x.2 (r.eraseIdx i ++ [(m1, m2)]), row xb1 29 [.pointer (some ⟨p, 0, none⟩)], row xb2 65 [.int .i64 m1, .bool m2], SP sa sc s]) : (Option Addr × Nat) → List Go.Sl.HP) x9.1) (fun kk hk => ?_) ?_)
    · (focus
        refine Xg.at_draw [8, 9, 10, 11, 14] [(0, [0, 1, 2, 3, 4, 5, 6, 7, 8, 9, 10, 11], Xg.CellIs (xb1) (((0 : Nat))) ((pv p 0))), (1, [0, 1, 5, 6, 7, 9, 10], Xg.CellIs (xb1) (((0 : Nat))) ((pv p 0))), (4, [0, 1, 2, 3, 4, 5, 6, 7, 9, 10], Xg.CellIs (p) (((0 : Nat))) ((Value.slice ra r.length rc)))] (by kernel_rfl) ?_
        refine Xg.any_reads (pv p 0) 0 0 (by kernel_rfl) rfl (by kernel_rfl) (by kernel_rfl) (by kernel_rfl) (by kernel_rfl) rfl rfl (by kernel_rfl) (Xg.cell_now (b := xb1) (off := ((0 : Nat))) 2 rfl (by kernel_rfl)) (fun _ h => Xg.run_load (by kernel_rfl) (by kernel_rfl) h) ?_
        refine Xg.any_reads (pv p 0) 1 1 (by kernel_rfl) rfl (by kernel_rfl) (by kernel_rfl) (by kernel_rfl) (by kernel_rfl) rfl rfl (by kernel_rfl) (Xg.cell_now (b := xb1) (off := ((0 : Nat))) 2 rfl (by kernel_rfl)) (fun _ h => Xg.run_load (by kernel_rfl) (by kernel_rfl) h) ?_
        refine Xg.any_pure ((pv p 0)) 2 (by kernel_rfl) rfl (by kernel_rfl) (by kernel_rfl) (by kernel_rfl) (by kernel_rfl) rfl (fun _ => by kernel_rfl) ?_
        refine Xg.any_pure ((pv p 0)) 3 (by kernel_rfl) rfl (by kernel_rfl) (by kernel_rfl) (by kernel_rfl) (by kernel_rfl) rfl (fun _ => by kernel_rfl) ?_
        refine Xg.any_reads (Value.slice ra r.length rc) 4 2 (by kernel_rfl) rfl (by kernel_rfl) (by kernel_rfl) (by kernel_rfl) (by kernel_rfl) rfl rfl (by kernel_rfl) (Xg.cell_now (b := p) (off := ((0 : Nat))) 3 rfl (by kernel_rfl)) (fun _ h => Xg.run_load (by kernel_rfl) (by kernel_rfl) h) ?_
        refine Xg.any_pure ((iv (↑i : Int))) 5 (by kernel_rfl) rfl (by kernel_rfl) (by kernel_rfl) (by kernel_rfl) (by kernel_rfl) rfl (fun _ => by kernel_rfl) ?_
        refine Xg.any_pure ((iv (↑i : Int))) 6 (by kernel_rfl) rfl (by kernel_rfl) (by kernel_rfl) (by kernel_rfl) (by kernel_rfl) rfl (fun _ => by kernel_rfl) ?_
        refine Xg.any_int .i64 (IntKind.wrap .i64 (((↑i : Int) + (1 : Int)))) 7 (by kernel_rfl) rfl (by kernel_rfl) (by kernel_rfl) (by kernel_rfl) (by kernel_rfl) rfl (fun _ => by kernel_rfl) (Xg.wrap_i64_in (by omega)) ?_
        refine Xg.any_each [8, 9] (by kernel_rfl) rfl ⟨?_, ?_, trivial⟩
        refine Xg.comes_act rfl (by kernel_rfl) (by kernel_rfl) (Xg.opx_call1' [1] [RP ra rc (r.eraseIdx i), row xb2 (65 : Nat) [iv m1, Value.bool m2], row xb1 (29 : TypeId) [pv p 0], HdP p ra r.length rc sa s.length sc, SP sa sc s] (fun _ => by kernel_rfl) (@hd ) (by kernel_rfl) (by kernel_rfl) (by kernel_rfl) ?_)
        refine Xg.acts (Xg.owes_cell 2 rfl (by kernel_rfl) (Xg.owes_skip (by kernel_rfl) (Xg.owes_skip (by kernel_rfl) Xg.owes_nil))) ?_
        rotate_left
        refine Xg.comes_act rfl (by kernel_rfl) (by kernel_rfl) (Xg.opx_loadn (off := 0) 2 0 [iv m1, Value.bool m2] (by kernel_rfl) rfl (by kernel_rfl) rfl (Xg.cells_at (by kernel_rfl)) (by kernel_rfl) ?_)
        refine Xg.acts (Xg.owes_cell 2 rfl (by kernel_rfl) (Xg.owes_cell 2 rfl (by kernel_rfl) (Xg.owes_cell 3 rfl (by kernel_rfl) Xg.owes_nil))) ?_
        rotate_left
        refine Xg.any_each [9] (by kernel_rfl) rfl ⟨?_, trivial⟩
        refine Xg.comes_act rfl (by kernel_rfl) (by kernel_rfl) (Xg.opx_loadn (off := 0) 2 1 [iv m1, Value.bool m2] (by kernel_rfl) rfl (by kernel_rfl) rfl (Xg.cells_at (by kernel_rfl)) (by kernel_rfl) ?_)
        refine Xg.acts (Xg.owes_cell 2 rfl (by kernel_rfl) (Xg.owes_cell 2 rfl (by kernel_rfl) (Xg.owes_cell 3 rfl (by kernel_rfl) Xg.owes_nil))) ?_
        refine Xg.any_each [10] (by kernel_rfl) rfl ⟨?_, trivial⟩
        refine Xg.comes_act rfl (by kernel_rfl) (by kernel_rfl) (Xg.opx_bs (elem := 65) 2 [Value.agg #[iv m1, Value.bool m2]] [iv m1, Value.bool m2] (by kernel_rfl) (by kernel_rfl) (by decide) rfl (by kernel_rfl) (by kernel_rfl) (by kernel_rfl) (by kernel_rfl) fun xb3 => ?_)
        refine Xg.acts (Xg.owes_cell 3 rfl (by kernel_rfl) (Xg.owes_cell 3 rfl (by kernel_rfl) (Xg.owes_cell 4 rfl (by kernel_rfl) Xg.owes_nil))) ?_
        refine Xg.any_each [11] (by kernel_rfl) rfl ⟨?_, trivial⟩
        refine Xg.comes_act rfl (by kernel_rfl) (by kernel_rfl) (Xg.opx_append_recs (elem := 65) (yv := (Value.slice (some (Addr.mk xb3 (0 : Nat) none)) (1 : Nat) (1 : Nat))) (l := (r.eraseIdx i)) 1 2 64 ((m1, m2)) rfl (by kernel_rfl) (by kernel_rfl) (by kernel_rfl) (by kernel_rfl) (fun _ hS => Xg.row_rd hS 0 rfl (by kernel_rfl)) (by kernel_rfl) (by first | omega | (simp only [List.length_nil]; omega) | (simp; done) | (simp; omega)) (by first | omega | (simp only [List.length_nil]; omega) | (simp; done) | (simp; omega)) fun xa1 xc1 => ?_)
        have xl1 : (((r.eraseIdx i) : (List (Int × Bool))) ++ ([((m1, m2))] : (List (Int × Bool)))).length = ((r.eraseIdx i) : (List (Int × Bool))).length + 1 := by simp
        refine Xg.acts (Xg.owes_cell 3 rfl (by kernel_rfl) (Xg.owes_skip (by kernel_rfl) (Xg.owes_skip (by kernel_rfl) Xg.owes_nil))) ?_
        refine Xg.any_pure ((pv p 0)) 12 (by kernel_rfl) rfl (by kernel_rfl) (by kernel_rfl) (by kernel_rfl) (by kernel_rfl) rfl (fun _ => by kernel_rfl) ?_
        refine Xg.any_pure ((pv p 0)) 13 (by kernel_rfl) rfl (by kernel_rfl) (by kernel_rfl) (by kernel_rfl) (by kernel_rfl) rfl (fun _ => by kernel_rfl) ?_
        refine Xg.any_each [14] (by kernel_rfl) rfl ⟨?_, trivial⟩
        refine Xg.comes_act rfl (by kernel_rfl) (by kernel_rfl) (Xg.opx_store1 (off := 0) 4 (Value.slice xa1 (r.eraseIdx i ++ [(m1, m2)]).length xc1) (by kernel_rfl) rfl (by kernel_rfl) (by kernel_rfl) (by kernel_rfl) (Nat.le_of_ble_eq_true (by kernel_rfl)) ?_)
        refine Xg.acts (Xg.owes_skip (by kernel_rfl) (Xg.owes_skip (by kernel_rfl) (Xg.owes_skip (by kernel_rfl) Xg.owes_nil))) ?_
        refine Xg.any_nil (by kernel_rfl) ?_
        rotate_left
        refine Xg.any_each [8, 10] (by kernel_rfl) rfl ⟨?_, ?_, trivial⟩
        refine Xg.comes_act rfl (by kernel_rfl) (by kernel_rfl) (Xg.opx_call1' [1] [RP ra rc (r.eraseIdx i), row xb2 (65 : Nat) [iv m1, Value.bool m2], row xb1 (29 : TypeId) [pv p 0], HdP p ra r.length rc sa s.length sc, SP sa sc s] (fun _ => by kernel_rfl) (@hd ) (by kernel_rfl) (by kernel_rfl) (by kernel_rfl) ?_)
        refine Xg.acts (Xg.owes_cell 2 rfl (by kernel_rfl) (Xg.owes_skip (by kernel_rfl) (Xg.owes_skip (by kernel_rfl) Xg.owes_nil))) ?_
        rotate_left
        refine Xg.comes_act rfl (by kernel_rfl) (by kernel_rfl) (Xg.opx_bs (elem := 65) 2 [Value.agg #[iv m1, Value.bool m2]] [iv m1, Value.bool m2] (by kernel_rfl) (by kernel_rfl) (by decide) rfl (by kernel_rfl) (by kernel_rfl) (by kernel_rfl) (by kernel_rfl) fun xb3 => ?_)
        refine Xg.acts (Xg.owes_cell 3 rfl (by kernel_rfl) (Xg.owes_cell 3 rfl (by kernel_rfl) (Xg.owes_cell 4 rfl (by kernel_rfl) Xg.owes_nil))) ?_
        rotate_left
        rotate_left
        refine Xg.any_each [10] (by kernel_rfl) rfl ⟨?_, trivial⟩
        refine Xg.comes_act rfl (by kernel_rfl) (by kernel_rfl) (Xg.opx_bs (elem := 65) 2 [Value.agg #[iv m1, Value.bool m2]] [iv m1, Value.bool m2] (by kernel_rfl) (by kernel_rfl) (by decide) rfl (by kernel_rfl) (by kernel_rfl) (by kernel_rfl) (by kernel_rfl) fun xb3 => ?_)
        refine Xg.acts (Xg.owes_cell 3 rfl (by kernel_rfl) (Xg.owes_cell 3 rfl (by kernel_rfl) (Xg.owes_cell 4 rfl (by kernel_rfl) Xg.owes_nil))) ?_
        refine Xg.any_each [11] (by kernel_rfl) rfl ⟨?_, trivial⟩
        refine Xg.comes_act rfl (by kernel_rfl) (by kernel_rfl) (Xg.opx_append_recs (elem := 65) (yv := (Value.slice (some (Addr.mk xb3 (0 : Nat) none)) (1 : Nat) (1 : Nat))) (l := (r.eraseIdx i)) 1 2 64 ((m1, m2)) rfl (by kernel_rfl) (by kernel_rfl) (by kernel_rfl) (by kernel_rfl) (fun _ hS => Xg.row_rd hS 0 rfl (by kernel_rfl)) (by kernel_rfl) (by first | omega | (simp only [List.length_nil]; omega) | (simp; done) | (simp; omega)) (by first | omega | (simp only [List.length_nil]; omega) | (simp; done) | (simp; omega)) fun xa1 xc1 => ?_)
        have xl1 : (((r.eraseIdx i) : (List (Int × Bool))) ++ ([((m1, m2))] : (List (Int × Bool)))).length = ((r.eraseIdx i) : (List (Int × Bool))).length + 1 := by simp
        refine Xg.acts (Xg.owes_cell 3 rfl (by kernel_rfl) (Xg.owes_skip (by kernel_rfl) (Xg.owes_skip (by kernel_rfl) Xg.owes_nil))) ?_
        refine Xg.any_pure ((pv p 0)) 12 (by kernel_rfl) rfl (by kernel_rfl) (by kernel_rfl) (by kernel_rfl) (by kernel_rfl) rfl (fun _ => by kernel_rfl) ?_
        refine Xg.any_pure ((pv p 0)) 13 (by kernel_rfl) rfl (by kernel_rfl) (by kernel_rfl) (by kernel_rfl) (by kernel_rfl) rfl (fun _ => by kernel_rfl) ?_
        refine Xg.any_each [14] (by kernel_rfl) rfl ⟨?_, trivial⟩
        refine Xg.comes_act rfl (by kernel_rfl) (by kernel_rfl) (Xg.opx_store1 (off := 0) 4 (Value.slice xa1 (r.eraseIdx i ++ [(m1, m2)]).length xc1) (by kernel_rfl) rfl (by kernel_rfl) (by kernel_rfl) (by kernel_rfl) (Nat.le_of_ble_eq_true (by kernel_rfl)) ?_)
        refine Xg.acts (Xg.owes_skip (by kernel_rfl) (Xg.owes_skip (by kernel_rfl) (Xg.owes_skip (by kernel_rfl) Xg.owes_nil))) ?_
        refine Xg.any_nil (by kernel_rfl) ?_
        rotate_left
        refine Xg.any_each [8] (by kernel_rfl) rfl ⟨?_, trivial⟩
        refine Xg.comes_act rfl (by kernel_rfl) (by kernel_rfl) (Xg.opx_call1' [2] [RP ra rc (r.eraseIdx i), row xb3 (65 : TypeId) [iv m1, Value.bool m2], row xb2 (65 : Nat) [iv m1, Value.bool m2], row xb1 (29 : TypeId) [pv p 0], HdP p ra r.length rc sa s.length sc, SP sa sc s] (fun _ => by kernel_rfl) (@hd ) (by kernel_rfl) (by kernel_rfl) (by kernel_rfl) ?_)
        refine Xg.acts (Xg.owes_cell 3 rfl (by kernel_rfl) (Xg.owes_skip (by kernel_rfl) (Xg.owes_skip (by kernel_rfl) Xg.owes_nil))) ?_
        refine Xg.any_each [11] (by kernel_rfl) rfl ⟨?_, trivial⟩
        refine Xg.comes_act rfl (by kernel_rfl) (by kernel_rfl) (Xg.opx_append_recs (elem := 65) (yv := (Value.slice (some (Addr.mk xb3 (0 : Nat) none)) (1 : Nat) (1 : Nat))) (l := (r.eraseIdx i)) 0 2 64 ((m1, m2)) rfl (by kernel_rfl) (by kernel_rfl) (by kernel_rfl) (by kernel_rfl) (fun _ hS => Xg.row_rd hS 1 rfl (by kernel_rfl)) (by kernel_rfl) (by first | omega | (simp only [List.length_nil]; omega) | (simp; done) | (simp; omega)) (by first | omega | (simp only [List.length_nil]; omega) | (simp; done) | (simp; omega)) fun xa1 xc1 => ?_)
        have xl1 : (((r.eraseIdx i) : (List (Int × Bool))) ++ ([((m1, m2))] : (List (Int × Bool)))).length = ((r.eraseIdx i) : (List (Int × Bool))).length + 1 := by simp
        refine Xg.acts (Xg.owes_cell 3 rfl (by kernel_rfl) (Xg.owes_skip (by kernel_rfl) (Xg.owes_skip (by kernel_rfl) Xg.owes_nil))) ?_
        refine Xg.any_pure ((pv p 0)) 12 (by kernel_rfl) rfl (by kernel_rfl) (by kernel_rfl) (by kernel_rfl) (by kernel_rfl) rfl (fun _ => by kernel_rfl) ?_
        refine Xg.any_pure ((pv p 0)) 13 (by kernel_rfl) rfl (by kernel_rfl) (by kernel_rfl) (by kernel_rfl) (by kernel_rfl) rfl (fun _ => by kernel_rfl) ?_
        refine Xg.any_each [14] (by kernel_rfl) rfl ⟨?_, trivial⟩
        refine Xg.comes_act rfl (by kernel_rfl) (by kernel_rfl) (Xg.opx_store1 (off := 0) 4 (Value.slice xa1 (r.eraseIdx i ++ [(m1, m2)]).length xc1) (by kernel_rfl) rfl (by kernel_rfl) (by kernel_rfl) (by kernel_rfl) (Nat.le_of_ble_eq_true (by kernel_rfl)) ?_)
        refine Xg.acts (Xg.owes_skip (by kernel_rfl) (Xg.owes_skip (by kernel_rfl) (Xg.owes_skip (by kernel_rfl) Xg.owes_nil))) ?_
        refine Xg.any_nil (by kernel_rfl) ?_)
      · (focus
          refine Xg.at_keep [4, 0, 3, 2, 5] (by kernel_rfl) ?_
          refine Xg.At.same (by kernel_rfl) ?_ (hk (((xa1, xc1)), fun j9 => ([pv p 0, iv (↑k : Int), pv xb1 0, tu, iv 0, iv 0, iv (↑i : Int), pv xb2 0, iv (↑k : Int), Value.bool (decide ((↑k : Int) < (0 : Int))), Value.bool false, iv (↑k : Int), pv p 0, pv p 0, pv p 1, Value.slice sa s.length sc, iv (↑s.length : Int), Value.bool false, Value.bool false, Value.bool false, pv p 0, pv p 0, pv p 1, Value.slice sa s.length sc, iv (↑k : Int), Value.pointer (some (Addr.mk (blk sa) k none)), iv (s.getD k (0 : Int)), Value.bool false, Value.bool false, pv p 0, pv p 0, pv p 0, Value.slice ra r.length rc, Value.func (Fn.func (27 : Nat)) #[] #[pv xb1 0], iv (↑i : Int), iv (↑i : Int), Value.bool (decide ((↑i : Int) < (0 : Int))), pv p 0, pv p 0, pv p 0, Value.slice ra r.length rc, iv (↑i : Int), Value.pointer (some (Addr.mk (blk ra) (i * (2 : Nat)) none)), Value.agg #[iv m1, Value.bool m2], pv p 0, pv p 0, pv p 0, pv p 0, Value.slice ra r.length rc, iv (↑i : Int), iv (↑i : Int), iv ((↑i : Int) + (1 : Int)), Value.slice ra (r.eraseIdx i).length rc, Value.agg #[iv m1, Value.bool m2], Value.slice (some (Addr.mk xb3 (0 : Nat) none)) (1 : Nat) (1 : Nat), Value.slice xa1 (r.eraseIdx i ++ [(m1, m2)]).length xc1, pv p 0, pv p 0, tu, tu, tu, tu, tu, tu, tu, tu, tu, tu] : List Value).getD j9 undef) ?_))
        · rfl
        · trivial
      · (focus
          refine Xg.at_keep [4, 1, 3, 2, 5] (by kernel_rfl) ?_
          refine Xg.At.same (by kernel_rfl) ?_ (hk (((xa1, xc1)), fun j9 => ([pv p 0, iv (↑k : Int), pv xb1 0, tu, iv 0, iv 0, iv (↑i : Int), pv xb2 0, iv (↑k : Int), Value.bool (decide ((↑k : Int) < (0 : Int))), Value.bool false, iv (↑k : Int), pv p 0, pv p 0, pv p 1, Value.slice sa s.length sc, iv (↑s.length : Int), Value.bool false, Value.bool false, Value.bool false, pv p 0, pv p 0, pv p 1, Value.slice sa s.length sc, iv (↑k : Int), Value.pointer (some (Addr.mk (blk sa) k none)), iv (s.getD k (0 : Int)), Value.bool false, Value.bool false, pv p 0, pv p 0, pv p 0, Value.slice ra r.length rc, Value.func (Fn.func (27 : Nat)) #[] #[pv xb1 0], iv (↑i : Int), iv (↑i : Int), Value.bool (decide ((↑i : Int) < (0 : Int))), pv p 0, pv p 0, pv p 0, Value.slice ra r.length rc, iv (↑i : Int), Value.pointer (some (Addr.mk (blk ra) (i * (2 : Nat)) none)), Value.agg #[iv m1, Value.bool m2], pv p 0, pv p 0, pv p 0, pv p 0, Value.slice ra r.length rc, iv (↑i : Int), iv (↑i : Int), iv ((↑i : Int) + (1 : Int)), Value.slice ra (r.eraseIdx i).length rc, Value.agg #[iv m1, Value.bool m2], Value.slice (some (Addr.mk xb3 (0 : Nat) none)) (1 : Nat) (1 : Nat), Value.slice xa1 (r.eraseIdx i ++ [(m1, m2)]).length xc1, pv p 0, pv p 0, tu, tu, tu, tu, tu, tu, tu, tu, tu, tu] : List Value).getD j9 undef) ?_))
        · rfl
        · trivial
      · (focus
          refine Xg.at_keep [4, 1, 3, 2, 5] (by kernel_rfl) ?_
          refine Xg.At.same (by kernel_rfl) ?_ (hk (((xa1, xc1)), fun j9 => ([pv p 0, iv (↑k : Int), pv xb1 0, tu, iv 0, iv 0, iv (↑i : Int), pv xb2 0, iv (↑k : Int), Value.bool (decide ((↑k : Int) < (0 : Int))), Value.bool false, iv (↑k : Int), pv p 0, pv p 0, pv p 1, Value.slice sa s.length sc, iv (↑s.length : Int), Value.bool false, Value.bool false, Value.bool false, pv p 0, pv p 0, pv p 1, Value.slice sa s.length sc, iv (↑k : Int), Value.pointer (some (Addr.mk (blk sa) k none)), iv (s.getD k (0 : Int)), Value.bool false, Value.bool false, pv p 0, pv p 0, pv p 0, Value.slice ra r.length rc, Value.func (Fn.func (27 : Nat)) #[] #[pv xb1 0], iv (↑i : Int), iv (↑i : Int), Value.bool (decide ((↑i : Int) < (0 : Int))), pv p 0, pv p 0, pv p 0, Value.slice ra r.length rc, iv (↑i : Int), Value.pointer (some (Addr.mk (blk ra) (i * (2 : Nat)) none)), Value.agg #[iv m1, Value.bool m2], pv p 0, pv p 0, pv p 0, pv p 0, Value.slice ra r.length rc, iv (↑i : Int), iv (↑i : Int), iv ((↑i : Int) + (1 : Int)), Value.slice ra (r.eraseIdx i).length rc, Value.agg #[iv m1, Value.bool m2], Value.slice (some (Addr.mk xb3 (0 : Nat) none)) (1 : Nat) (1 : Nat), Value.slice xa1 (r.eraseIdx i ++ [(m1, m2)]).length xc1, pv p 0, pv p 0, tu, tu, tu, tu, tu, tu, tu, tu, tu, tu] : List Value).getD j9 undef) ?_))
        · rfl
        · trivial
    rintro ⟨⟨xa1, xc1⟩, J⟩ _
    (focus
      refine Xg.At.same (T' := [pv p 0, iv (↑k : Int), pv xb1 0, tu, iv 0, iv 0, iv (↑i : Int), pv xb2 0, iv (↑k : Int), Value.bool (decide ((↑k : Int) < (0 : Int))), Value.bool false, iv (↑k : Int), pv p 0, pv p 0, pv p 1, Value.slice sa s.length sc, iv (↑s.length : Int), Value.bool false, Value.bool false, Value.bool false, pv p 0, pv p 0, pv p 1, Value.slice sa s.length sc, iv (↑k : Int), Value.pointer (some (Addr.mk (blk sa) k none)), iv (s.getD k (0 : Int)), Value.bool false, Value.bool false, pv p 0, pv p 0, pv p 0, Value.slice ra r.length rc, Value.func (Fn.func (27 : Nat)) #[] #[pv xb1 0], iv (↑i : Int), iv (↑i : Int), Value.bool (decide ((↑i : Int) < (0 : Int))), pv p 0, pv p 0, pv p 0, Value.slice ra r.length rc, iv (↑i : Int), Value.pointer (some (Addr.mk (blk ra) (i * (2 : Nat)) none)), Value.agg #[iv m1, Value.bool m2], J 44, J 45, J 46, J 47, J 48, J 49, J 50, J 51, J 52, J 53, J 54, J 55, J 56, J 57, tu, tu, tu, tu, tu, tu, tu, tu, tu, tu]) (L' := [HdP p ((xa1, xc1), J).fst.fst (r.eraseIdx i ++ [(m1, m2)]).length ((xa1, xc1), J).fst.snd sa s.length sc, RP ((xa1, xc1), J).fst.fst ((xa1, xc1), J).fst.snd (r.eraseIdx i ++ [(m1, m2)]), row xb1 (29 : TypeId) [pv p 0], row xb2 (65 : TypeId) [iv m1, Value.bool m2], SP sa sc s]) (by kernel_rfl) rfl ?_)
    dsimp only
    (focus
      refine Xg.at_seq ?_
      refine Xg.at_draw [8] [(0, [0, 4, 5, 6], Xg.CellIs (xb1) (((0 : Nat))) ((pv p 0))), (3, [0, 1, 2, 3, 4, 5, 6], Xg.CellIs (p) (((1 : Nat))) ((Value.slice sa s.length sc))), (6, [0, 1, 2, 3, 4, 5, 6], Xg.CellIs (xb2) (((0 : Nat))) ((iv m1))), (7, [0, 1, 2, 3, 4, 5, 6, 7], (RdIs (1 : Nat) (Value.slice sa s.length sc) s.length (List.map (Value.int IntKind.i64) s)))] (by kernel_rfl) ?_
      refine Xg.any_reads (pv p 0) 0 0 (by kernel_rfl) rfl (by kernel_rfl) (by kernel_rfl) (by kernel_rfl) (by kernel_rfl) rfl rfl (by kernel_rfl) (Xg.cell_now (b := xb1) (off := ((0 : Nat))) 2 rfl (by kernel_rfl)) (fun _ h => Xg.run_load (by kernel_rfl) (by kernel_rfl) h) ?_
      refine Xg.any_pure ((pv p 0)) 1 (by kernel_rfl) rfl (by kernel_rfl) (by kernel_rfl) (by kernel_rfl) (by kernel_rfl) rfl (fun _ => by kernel_rfl) ?_
      refine Xg.any_pure ((pv p 1)) 2 (by kernel_rfl) rfl (by kernel_rfl) (by kernel_rfl) (by kernel_rfl) (by kernel_rfl) rfl (fun _ => by kernel_rfl) ?_
      refine Xg.any_reads (Value.slice sa s.length sc) 3 1 (by kernel_rfl) rfl (by kernel_rfl) (by kernel_rfl) (by kernel_rfl) (by kernel_rfl) rfl rfl (by kernel_rfl) (Xg.cell_now (b := p) (off := ((1 : Nat))) 0 rfl (by kernel_rfl)) (fun _ h => Xg.run_load (by kernel_rfl) (by kernel_rfl) h) ?_
      refine Xg.any_pure ((iv (↑k : Int))) 4 (by kernel_rfl) rfl (by kernel_rfl) (by kernel_rfl) (by kernel_rfl) (by kernel_rfl) rfl (fun _ => by kernel_rfl) ?_
      refine Xg.any_pure ((pv xb2 0)) 5 (by kernel_rfl) rfl (by kernel_rfl) (by kernel_rfl) (by kernel_rfl) (by kernel_rfl) rfl (fun _ => by kernel_rfl) ?_
      refine Xg.any_reads (iv m1) 6 2 (by kernel_rfl) rfl (by kernel_rfl) (by kernel_rfl) (by kernel_rfl) (by kernel_rfl) rfl rfl (by kernel_rfl) (Xg.cell_now (b := xb2) (off := ((0 : Nat))) 3 rfl (by kernel_rfl)) (fun _ h => Xg.run_load (by kernel_rfl) (by kernel_rfl) h) ?_
      refine Xg.any_reads (.pointer (some (Addr.mk (Xg.blk sa) (offA sa + k) none))) 7 3 (by kernel_rfl) rfl (by kernel_rfl) (by kernel_rfl) (by kernel_rfl) (by kernel_rfl) rfl rfl (by kernel_rfl) (Xg.rd_now 4 (Xg.reads_own (E := ((3 : TypeId))) (sz := ((1 : Nat))) (n := s.length) (c := sc) (a := sa) (vs := (List.map (Value.int IntKind.i64) s))) (by kernel_rfl)) (Xg.run_ix_rd (elem := 3) (kd := .i64) (e := ((↑k : Int))) 1 k (offA sa + k) (by kernel_rfl) (by kernel_rfl) (by kernel_rfl) (by kernel_rfl) rfl (by omega) (by simp only [List.length_map]; omega) (by omega)) ?_
      refine Xg.any_each [8] (by kernel_rfl) rfl ⟨?_, trivial⟩
      refine Xg.comes_act rfl (by kernel_rfl) (by kernel_rfl) (Xg.opx_store_own_i (a := sa) (off := (offA sa + k)) (kd := .i64) (xs := s) (e := m1) 4 (by kernel_rfl) rfl (by kernel_rfl) (by kernel_rfl) (by first | omega | (simp only [List.length_set]; omega)) ?_)
      refine Xg.acts (Xg.owes_skip (by kernel_rfl) (Xg.owes_skip (by kernel_rfl) (Xg.owes_skip (by kernel_rfl) (Xg.owes_skip (by kernel_rfl) Xg.owes_nil)))) ?_
      refine Xg.any_nil (by kernel_rfl) ?_
      refine Xg.at_seq ?_
      refine Xg.at_region ?_
      refine Xg.ops_op (by kernel_rfl) (Xg.opx_pure ((pv xb2 0)) rfl (fun _ => by kernel_rfl) ?_)
      refine Xg.ops_op (by kernel_rfl) (Xg.opx_load (b := xb2) (off := ((0 : Nat))) 3 (iv m1) rfl (by kernel_rfl) (by kernel_rfl) (by kernel_rfl) ?_)
      refine Xg.ops_op (by kernel_rfl) (Xg.opx_pure ((iv m1)) rfl (fun _ => by kernel_rfl) ?_)
      refine Xg.ops_op (by kernel_rfl) (Xg.opx_pure ((iv 0)) rfl (fun _ => by kernel_rfl) ?_)
      refine Xg.ops_nil ?_
      refine Xg.at_ret_ps (v := (Value.tuple #[iv m1, iv 0])) [0, 1, 4] [HdP p xa1 (r.eraseIdx i ++ [(m1, m2)]).length xc1 sa s.length sc, RP xa1 xc1 (r.eraseIdx i ++ [(m1, m2)]), ownS (3 : TypeId) (1 : Nat) (Value.slice sa s.length sc) s.length (List.map (Value.int IntKind.i64) (s.set (offA sa + k) m1))] Go.Proofs.Try.func13 (fun _ => by kernel_rfl) (by kernel_rfl) (by kernel_rfl) ?_
      refine ⟨((xa1, xc1)), trivial, by kernel_rfl, ?_⟩)
    simp only [SP, Xg.ints, HdP, List.length_set, hoff, Nat.zero_add]

/-- .. with more than the Sched behind. -/
theorem closedE {f : FuncId} {args : List Value} {α : Type} {V : α → Value} {Q : α → List HP} {p : Nat} {r r' : List (Int × Bool)} {s s' : List Int}
    (h : ∀ ra rc sa sc, Does Try.prog f args [HdP p ra r.length rc sa s.length sc, RP ra rc r, SP sa sc s] (RetE (fun x : (Option Addr × Nat) × α => True) (fun x => V x.2) (fun x => HdP p x.1.1 r'.length x.1.2 sa s'.length sc :: RP x.1.1 x.1.2 r' :: SP sa sc s' :: Q x.2))) :
    Does Try.prog f args [SchedP p r s] (RetE (fun _ : α => True) V (fun x => SchedP p r' s' :: Q x)) := by
  constructor
  intro g F w hS
  obtain ⟨ra, rc, sa, sc, hS⟩ := sched_open hS
  intro cs
  obtain ⟨e, w', fr, ⟨v, ps, ⟨x, _, rfl, rfl⟩, rfl, h2⟩, h3⟩ := (h ra rc sa sc).run g F w hS cs
  exact ⟨_, w', fr, ⟨_, _, ⟨x.2, trivial, rfl, rfl⟩, rfl, sched_shut h2⟩, h3⟩

end Go.Proofs.Ytijjficnhpokdaa

/- The sched package: New; the law's helpers. -/
namespace Go.Proofs.Ytijjficnhpokdaa
open Go.Sl Go.Xg
set_option linter.unusedVariables false
set_option linter.unusedSimpArgs false
set_option maxHeartbeats 4000000
set_option maxRecDepth 100000

theorem does_weak {f : FuncId} {args : List Value} {pre : List HP} {α β : Type} {p : α → Prop} {V : α → Value} {PS : α → List HP} {q : β → Prop} {V' : β → Value} {QS : β → List HP} (h : Does Try.prog f args pre (RetE p V PS))
    (hw : ∀ x, p x → ∃ y, q y ∧ V x = V' y ∧ ∀ g w L, SL g (PS x ++ L) w → SL g (QS y ++ L) w) : Does Try.prog f args pre (RetE q V' QS) := by
  constructor
  intro g F w hS cs
  obtain ⟨e, w', fr, ⟨v, ps, ⟨x, hx, rfl, rfl⟩, rfl, h2⟩, h3⟩ := h.run g F w hS cs
  obtain ⟨y, hy, hv, hs⟩ := hw x hx
  exact ⟨_, w', fr, ⟨_, _, ⟨y, hy, hv, rfl⟩, rfl, hs _ _ _ h2⟩, h3⟩

theorem new_d (k : Nat) (h1 : 1 ≤ k) (h8 : k ≤ 8) : Does Try.prog 25 [.int .i64 (k : Nat)] [] (RetE (fun p : Nat => True) (fun p => .tuple #[.pointer (some ⟨p, 0, none⟩), .int .i64 0]) (fun p => [SchedP p [] (List.replicate k (-1))])) := by
  have hr := fun b => repeat_d b k h1 h8
  obtain ⟨l, hl⟩ : ∃ l, List.replicate k (-1 : Int) = l := ⟨_, rfl⟩
  rw [hl] at hr ⊢
  have h0 : Does Try.prog 25 [.int .i64 (k : Nat)] [] (RetE (fun x : Nat × Option Addr × Nat => True) (fun x => .tuple #[.pointer (some ⟨x.1, 0, none⟩), .int .i64 0]) (fun x => [row x.1 62 [.slice none 0 0, .slice x.2.1 l.length x.2.2], ints 3 .i64 x.2.1 x.2.2 l])) := by
    (focus
      refine Xg.spec_of Go.Proofs.Try.func25 rfl Go.Proofs.Try.ntmps25 fun g F => ?_)
    (focus
      refine Xg.at_seq ?_
      refine Xg.at_region ?_
      refine Xg.ops_op (by kernel_rfl) (Xg.opx_pure ((Value.pointer none)) rfl (fun _ => by kernel_rfl) ?_)
      refine Xg.ops_op (by kernel_rfl) (Xg.opx_pure ((iv 0)) rfl (fun _ => by kernel_rfl) ?_)
      refine Xg.ops_nil ?_
      refine Xg.at_seq ?_
      refine Xg.at_seq ?_
      refine Xg.at_region ?_
      refine Xg.ops_op (by kernel_rfl) (Xg.opx_pure ((iv (↑k : Int))) rfl (fun _ => by kernel_rfl) ?_)
      refine Xg.ops_op (by kernel_rfl) (Xg.opx_pure (.bool (decide ((((↑k : Int)) : Int) < ((1 : Int))))) rfl (fun _ => by kernel_rfl) ?_)
      refine Xg.ops_op (by kernel_rfl) (Xg.opx_pure ((Value.bool (decide ((↑k : Int) < (1 : Int))))) rfl (fun _ => by kernel_rfl) ?_)
      refine Xg.ops_flag (j := 6) (c := (decide ((↑k : Int) < (1 : Int)))) (by kernel_rfl) (fun xh1 => absurd (of_decide_eq_true xh1) (by omega)) (fun _ => ?_)
      refine Xg.ops_op (by kernel_rfl) (Xg.opx_pure ((iv (↑k : Int))) rfl (fun _ => by kernel_rfl) ?_)
      refine Xg.ops_op (by kernel_rfl) (Xg.opx_pure (.bool (decide ((((↑k : Int)) : Int) > ((8 : Int))))) rfl (fun _ => by kernel_rfl) ?_)
      refine Xg.ops_flag (j := 8) (c := (decide ((↑k : Int) > (8 : Int)))) (by kernel_rfl) (fun xh1 => absurd (of_decide_eq_true xh1) (by omega)) (fun _ => ?_)
      refine Xg.ops_op (by kernel_rfl) (Xg.opx_pure ((Value.bool false)) rfl (fun _ => by kernel_rfl) ?_)
      refine Xg.ops_nil ?_
      refine Xg.at_false (t := false) (by kernel_rfl) rfl ?_
      refine Xg.at_skip ?_
      refine Xg.at_seq ?_
      refine Xg.at_region ?_
      refine Xg.ops_op (by kernel_rfl) (Xg.opx_bs (elem := 3) 1 [iv (-1)] [iv (-1)] (by kernel_rfl) (by kernel_rfl) (by decide) rfl (by kernel_rfl) (by kernel_rfl) (by kernel_rfl) (by kernel_rfl) fun xb1 => ?_)
      refine Xg.ops_op (by kernel_rfl) (Xg.opx_pure ((iv (↑k : Int))) rfl (fun _ => by kernel_rfl) ?_)
      refine Xg.ops_op (by kernel_rfl) (Xg.opx_callE' [0] (fun xx1 => [ints (3 : TypeId) IntKind.i64 xx1.fst xx1.snd l]) (fun _ => by kernel_rfl) (@hr (xb1)) (by kernel_rfl) (by kernel_rfl) (by kernel_rfl) fun xx1 xh1 => ?_)
      try dsimp only at xh1
      refine Xg.ops_op (by kernel_rfl) (Xg.opx_pure ((Value.agg #[Value.slice none (0 : Nat) (0 : Nat), Value.slice xx1.fst l.length xx1.snd])) rfl (fun _ => by kernel_rfl) ?_)
      refine Xg.ops_op (by kernel_rfl) (Xg.opx_box (v := (Value.agg #[Value.slice none (0 : Nat) (0 : Nat), Value.slice xx1.fst l.length xx1.snd])) [Value.slice none (0 : Nat) (0 : Nat), Value.slice xx1.fst l.length xx1.snd] (by kernel_rfl) (by kernel_rfl) fun xb2 => ?_)
      refine Xg.ops_op (by kernel_rfl) (Xg.opx_pure ((pv xb2 0)) rfl (fun _ => by kernel_rfl) ?_)
      refine Xg.ops_op (by kernel_rfl) (Xg.opx_pure ((iv 0)) rfl (fun _ => by kernel_rfl) ?_)
      refine Xg.ops_nil ?_
      refine Xg.at_ret_ps (v := (Value.tuple #[pv xb2 0, iv 0])) [0, 1] [row xb2 (62 : Nat) [Value.slice none (0 : Nat) (0 : Nat), Value.slice xx1.fst l.length xx1.snd], ints (3 : TypeId) IntKind.i64 xx1.fst xx1.snd l] Go.Proofs.Try.func25 (fun _ => by kernel_rfl) (by kernel_rfl) (by kernel_rfl) ?_
      refine ⟨((xb2, xx1.fst, xx1.snd)), trivial, by kernel_rfl, ?_⟩)
    rfl
  refine does_weak h0 fun x _ => ⟨x.1, trivial, rfl, fun g w L hS => ?_⟩
  exact sched_shut (ra := none) (rc := 0) (hS.own_nil 65 2 |>.perm (.swap _ _ _))
end Go.Proofs.Ytijjficnhpokdaa

/- The sched laws' helpers: pick, begun, made. -/
namespace Go.Proofs.Ytijjficnhpokdaa
open Go.Sl Go.Xg
set_option linter.unusedVariables false
set_option linter.unusedSimpArgs false
set_option maxHeartbeats 4000000
set_option maxRecDepth 100000

def i64ok (x : Int) : Prop := -9223372036854775808 ≤ x ∧ x ≤ 9223372036854775807
def pickN (c : Int) (n : Nat) : Nat := ((if c < 0 then -(c + 1) else c) % (n : Int)).toNat
theorem pickN_lt (c : Int) (n : Nat) (h : 0 < n) : pickN c n < n := by
  unfold pickN
  have h1 := Int.emod_lt_of_pos (if c < 0 then -(c + 1) else c) (b := (n : Int)) (by omega)
  have h2 := Int.emod_nonneg (if c < 0 then -(c + 1) else c) (b := (n : Int)) (by omega)
  omega
theorem pickN_eq (c : Int) (n : Nat) (h : 0 < n) : ((pickN c n : Nat) : Int) = (if c < 0 then -(c + 1) else c) % (n : Int) := by
  unfold pickN
  have h2 := Int.emod_nonneg (if c < 0 then -(c + 1) else c) (b := (n : Int)) (by omega)
  omega
theorem pick_d (c : Int) (n : Nat) (hc : i64ok c) (hn : 0 < n) : Does Try.prog 11 [.int .i64 c, .int .i64 (n : Nat)] []
    (RetE (fun x : Nat => x = pickN c n ∧ x < n) (fun x => .int .i64 (x : Nat)) (fun _ => [])) := by
  refine Does.mono (post := Ret (.int .i64 ((if c < 0 then -(c + 1) else c) % (n : Int))) []) ?_ fun v ps ⟨e1, e2⟩ => ⟨pickN c n, ⟨rfl, pickN_lt c n hn⟩, by rw [e1, ← pickN_eq c n hn], e2⟩
  obtain ⟨h1, h2⟩ := hc
  (focus
    refine Xg.spec_of Go.Proofs.Try.func11 rfl Go.Proofs.Try.ntmps11 fun g F => ?_)
  (focus
    refine Xg.at_seq ?_
    refine Xg.at_region ?_
    refine Xg.ops_op (by kernel_rfl) (Xg.opx_pure ((iv 0)) rfl (fun _ => by kernel_rfl) ?_)
    refine Xg.ops_nil ?_
    refine Xg.at_seq ?_
    refine Xg.at_seq ?_
    refine Xg.at_region ?_
    refine Xg.ops_op (by kernel_rfl) (Xg.opx_pure ((iv c)) rfl (fun _ => by kernel_rfl) ?_)
    refine Xg.ops_op (by kernel_rfl) (Xg.opx_pure (.bool (decide ((c : Int) < ((0 : Int))))) rfl (fun _ => by kernel_rfl) ?_)
    refine Xg.ops_nil ?_
    refine Xg.at_dec (p := (c < (0 : Int))) (by kernel_rfl) (fun xh1 => ?_) (fun xh1 => ?_)
    refine Xg.at_region ?_
    refine Xg.ops_op (by kernel_rfl) (Xg.opx_pure ((iv c)) rfl (fun _ => by kernel_rfl) ?_)
    refine Xg.ops_op (by kernel_rfl) (Xg.opx_int .i64 (IntKind.wrap .i64 ((c + (1 : Int)))) rfl (fun _ => by kernel_rfl) (Xg.wrap_i64_in (by omega)) ?_)
    refine Xg.ops_op (by kernel_rfl) (Xg.opx_int .i64 (IntKind.wrap .i64 (((0 : Int) - (c + (1 : Int))))) rfl (fun _ => by kernel_rfl) (Xg.wrap_i64_in (by omega)) ?_)
    refine Xg.ops_op (by kernel_rfl) (Xg.opx_pure ((iv ((0 : Int) - (c + (1 : Int))))) rfl (fun _ => by kernel_rfl) ?_)
    refine Xg.ops_nil ?_
    refine Xg.at_seq ?_
    refine Xg.at_region ?_
    refine Xg.ops_op (by kernel_rfl) (Xg.opx_pure ((iv ((0 : Int) - (c + (1 : Int))))) rfl (fun _ => by kernel_rfl) ?_)
    refine Xg.ops_op (by kernel_rfl) (Xg.opx_pure ((iv (↑n : Int))) rfl (fun _ => by kernel_rfl) ?_)
    refine Xg.ops_op (by kernel_rfl) (Xg.opx_run (.int .i64 (((0 : Int) - (c + (1 : Int))) % ((↑n : Int)))) rfl (fun _ => Xg.run_rem (k1 := .i64) (m := ((0 : Int) - (c + (1 : Int)))) (e := ((↑n : Int))) (by kernel_rfl) (by kernel_rfl) (by omega) (by omega)) ?_)
    refine Xg.ops_op (by kernel_rfl) (Xg.opx_pure ((iv (((0 : Int) - (c + (1 : Int))) % (↑n : Int)))) rfl (fun _ => by kernel_rfl) ?_)
    refine Xg.ops_nil ?_
    refine Xg.at_ret_ps (v := (iv (((0 : Int) - (c + (1 : Int))) % (↑n : Int)))) [] [] Go.Proofs.Try.func11 (fun _ => by kernel_rfl) (by kernel_rfl) (by kernel_rfl) ?_
    rotate_left
    refine Xg.at_skip ?_
    refine Xg.at_seq ?_
    refine Xg.at_region ?_
    refine Xg.ops_op (by kernel_rfl) (Xg.opx_pure ((iv c)) rfl (fun _ => by kernel_rfl) ?_)
    refine Xg.ops_op (by kernel_rfl) (Xg.opx_pure ((iv (↑n : Int))) rfl (fun _ => by kernel_rfl) ?_)
    refine Xg.ops_op (by kernel_rfl) (Xg.opx_run (.int .i64 (c % ((↑n : Int)))) rfl (fun _ => Xg.run_rem (k1 := .i64) (m := c) (e := ((↑n : Int))) (by kernel_rfl) (by kernel_rfl) (by omega) (by omega)) ?_)
    refine Xg.ops_op (by kernel_rfl) (Xg.opx_pure ((iv (c % (↑n : Int)))) rfl (fun _ => by kernel_rfl) ?_)
    refine Xg.ops_nil ?_
    refine Xg.at_ret_ps (v := (iv (c % (↑n : Int)))) [] [] Go.Proofs.Try.func11 (fun _ => by kernel_rfl) (by kernel_rfl) (by kernel_rfl) ?_)
  all_goals exact ⟨by first | (rw [if_pos (by omega), Int.zero_sub]; done) | (rw [if_neg (by omega)]; done), rfl⟩

/-- All of n numbers, ready. -/
def full (n : Nat) : List (Int × Bool) := (List.range n).map fun i : Nat => ((i : Int), true)
end Go.Proofs.Ytijjficnhpokdaa
