import Derived.Test.YtijjficnhpokdaaMAll9
import Derived.Shelf.Abstract
/- The sched package: what a Sched is; IndexFunc over its round. -/
namespace Go.Proofs.Ytijjficnhpokdaa
open Go.Sl Go.Xg
set_option linter.unusedVariables false
set_option linter.unusedSimpArgs false
set_option maxHeartbeats 4000000
set_option maxRecDepth 100000

abbrev mc (x : Int × Bool) : List Value := [.int .i64 x.1, .bool x.2]
abbrev RP (a : Option Addr) (c : Nat) (r : List (Int × Bool)) : HP := recsO 65 2 mc a c r
abbrev SP (a : Option Addr) (c : Nat) (s : List Int) : HP := ints 3 .i64 a c s
abbrev HdP (p : Nat) (ra : Option Addr) (rn rc : Nat) (sa : Option Addr) (sn sc : Nat) : HP := row p 62 [.slice ra rn rc, .slice sa sn sc]

theorem indexFunc_d (fn : Nat) (hE : Go.Proofs.Enters Try.prog fn) (b : Nat) (p : Int × Bool → Bool) (X1 X2 X3 : HP) (a : Option Addr) (c : Nat) (r : List (Int × Bool))
    (hf : ∀ x, Does Try.prog fn [.agg #[.int .i64 x.1, .bool x.2], .pointer (some ⟨b, 0, none⟩)] [RP a c r, X1, X2, X3] (Ret (.bool (p x)) [RP a c r, X1, X2, X3])) :
    Does Try.prog 26 [.slice a r.length c, .func (.func fn) #[] #[.pointer (some ⟨b, 0, none⟩)]] [RP a c r, X1, X2, X3] (Ret (.int .i64 (fidx p r)) [RP a c r, X1, X2, X3]) := by
  (focus
    refine Xg.spec_of Go.Proofs.Try.func26 rfl Go.Proofs.Try.ntmps26 fun g F => ?_)
  obtain ⟨n, hn⟩ : ∃ n, fidx p r = n := ⟨_, rfl⟩
  rw [hn]
  refine Xg.at_own 0 rfl fun h1 h2 _ _ => ?_
  have hm : r.length ≤ maxLen := Nat.le_trans h1 h2
  unfold maxLen at hm
  clear h1 h2
  (focus
    refine Xg.at_seq ?_
    refine Xg.at_region ?_
    refine Xg.ops_op (by kernel_rfl) (Xg.opx_pure ((iv 0)) rfl (fun _ => by kernel_rfl) ?_)
    refine Xg.ops_nil ?_
    refine Xg.at_seq ?_
    refine Xg.at_seq ?_
    refine Xg.at_region ?_
    refine Xg.ops_op (by kernel_rfl) (Xg.opx_pure ((Value.slice a r.length c)) rfl (fun _ => by kernel_rfl) ?_)
    refine Xg.ops_op (by kernel_rfl) (Xg.opx_pure ((iv (↑r.length : Int))) rfl (fun _ => by kernel_rfl) ?_)
    refine Xg.ops_op (by kernel_rfl) (Xg.opx_pure ((iv 0)) rfl (fun _ => by kernel_rfl) ?_)
    refine Xg.ops_nil ?_
    refine Xg.at_block ?_)
  (focus
    refine Xg.at_rounds_inv (α := (Nat) × (Nat → Value)) (fun x => ((fun i => i ≤ r.length ∧ ∀ j, j < i → p (r.getD j default) = false) : (Nat) → Prop) x.1) (fun x => ((fun i => r.length - i) : (Nat) → Nat) x.1) (fun x => Xg.headT [Value.slice a r.length c, Value.func (Fn.func fn) #[] #[pv b 0], tu, tu, iv 0, tu, Value.slice a r.length c, iv (↑r.length : Int), iv 0, tu, tu, tu, tu, tu, tu, tu, tu, tu, tu] [4, 5, 9, 10, 11, 12, 13, 14, 15, 16, 17, 18] (((fun i => [(8, .int .i64 (i : Nat))]) : (Nat) → List (Nat × Go.Value)) x.1) x.2) (fun x => ((fun i => [RP a c r, X1, X2, X3]) : (Nat) → List Go.Sl.HP) x.1) ((0), fun j9 => ([Value.slice a r.length c, Value.func (Fn.func fn) #[] #[pv b 0], tu, tu, iv 0, tu, Value.slice a r.length c, iv (↑r.length : Int), iv 0, tu, tu, tu, tu, tu, tu, tu, tu, tu, tu] : List Value).getD j9 undef) (by kernel_rfl) (by kernel_rfl) ?_ ?_)
  · exact ⟨Nat.zero_le _, fun j hj => absurd hj (Nat.not_lt_zero _)⟩
  rintro ⟨i, J⟩ ⟨hi, hI⟩ ih
  dsimp only at hi hI
  (focus
    refine Xg.At.same (T' := [Value.slice a r.length c, Value.func (Fn.func fn) #[] #[pv b 0], tu, tu, J 4, J 5, Value.slice a r.length c, iv (↑r.length : Int), iv (↑i : Int), J 9, J 10, J 11, J 12, J 13, J 14, J 15, J 16, J 17, J 18]) (L' := [RP a c r, X1, X2, X3]) (by kernel_rfl) rfl ?_)
  by_cases hlt : i < r.length
  · (focus
      refine Xg.at_seq ?_
      refine Xg.at_region ?_
      refine Xg.ops_op (by kernel_rfl) (Xg.opx_pure (.bool (decide ((((↑i : Int)) : Int) < ((↑r.length : Int))))) rfl (fun _ => by kernel_rfl) ?_)
      refine Xg.ops_nil ?_
      refine Xg.at_seq ?_
      refine Xg.at_true (t := decide (((↑i : Int) < (↑r.length : Int)))) (by kernel_rfl) (decide_eq_true (by omega)) ?_
      refine Xg.at_skip ?_
      refine Xg.at_seq ?_
      refine Xg.at_block ?_
      refine Xg.at_seq ?_
      refine Xg.at_region ?_
      refine Xg.ops_op (by kernel_rfl) (Xg.opx_pure ((iv (↑i : Int))) rfl (fun _ => by kernel_rfl) ?_)
      refine Xg.ops_op (by kernel_rfl) (Xg.opx_pure ((iv (↑i : Int))) rfl (fun _ => by kernel_rfl) ?_)
      refine Xg.ops_nil ?_
      refine Xg.at_seq ?_
      refine Xg.at_region ?_
      refine Xg.ops_op (by kernel_rfl) (Xg.opx_pure ((Value.func (Fn.func fn) #[] #[pv b 0])) rfl (fun _ => by kernel_rfl) ?_)
      refine Xg.ops_op (by kernel_rfl) (Xg.opx_pure ((Value.slice a r.length c)) rfl (fun _ => by kernel_rfl) ?_)
      refine Xg.ops_op (by kernel_rfl) (Xg.opx_pure ((iv (↑i : Int))) rfl (fun _ => by kernel_rfl) ?_)
      refine Xg.ops_op (by kernel_rfl) (Xg.opx_ix_own (elem := 65) (kd := .i64) (e := ((↑i : Int))) 0 2 i (i * (2 : Nat)) rfl (by kernel_rfl) (by kernel_rfl) (by kernel_rfl) (by kernel_rfl) rfl (by omega) (by omega) ?_)
      refine Xg.ops_op (by kernel_rfl) (Xg.opx_loadn_own (a := a) (off := (i * (2 : Nat))) 2 0 [iv (r.getD i default).fst, Value.bool (r.getD i default).snd] (by kernel_rfl) rfl (by kernel_rfl) rfl (Xg.recs_at' (wd := 2) (fun _ => rfl) default i (by omega) (by omega) (by kernel_rfl)) (by kernel_rfl) ?_))
    refine Xg.ops_op (by kernel_rfl) (Xg.opx_call1' (args := [.agg #[.int .i64 (r.getD i default).1, .bool (r.getD i default).2], .pointer (some ⟨b, 0, none⟩)]) [0, 1, 2, 3] [RP a c r, X1, X2, X3] (fun w => Eq.trans (b := Sem.run Try.prog (callFunc fn #[.agg #[.int .i64 (r.getD i default).1, .bool (r.getD i default).2], .pointer (some ⟨b, 0, none⟩)]) w) (by kernel_rfl) (hE _ w)) (hf (r.getD i default)) (by kernel_rfl) rfl rfl ?_)
    obtain ⟨t, ht⟩ : ∃ t, p (r.getD i default) = t := ⟨_, rfl⟩
    rw [ht]
    cases t with
    | true =>
      have := fidx_at default r i hlt hI ht
      rw [hn] at this
      subst this
      clear ih
      (focus
        refine Xg.ops_nil ?_
        refine Xg.at_true (t := true) (by kernel_rfl) rfl ?_
        refine Xg.at_seq ?_
        refine Xg.at_region ?_
        refine Xg.ops_op (by kernel_rfl) (Xg.opx_pure ((iv (↑i : Int))) rfl (fun _ => by kernel_rfl) ?_)
        refine Xg.ops_op (by kernel_rfl) (Xg.opx_pure ((iv (↑i : Int))) rfl (fun _ => by kernel_rfl) ?_)
        refine Xg.ops_nil ?_
        refine Xg.at_ret_ps (v := (iv (↑i : Int))) [0, 1, 2, 3] [RP a c r, X1, X2, X3] Go.Proofs.Try.func26 (fun _ => by kernel_rfl) (by kernel_rfl) (by kernel_rfl) ?_
        exact ⟨by kernel_rfl, by kernel_rfl⟩)
    | false =>
      (focus
        refine Xg.ops_nil ?_
        refine Xg.at_false (t := false) (by kernel_rfl) rfl ?_
        refine Xg.at_skip ?_
        refine Xg.at_inBlock ?_
        refine Xg.at_region ?_
        refine Xg.ops_op (by kernel_rfl) (Xg.opx_int .i64 (IntKind.wrap .i64 (((↑i : Int) + (1 : Int)))) rfl (fun _ => by kernel_rfl) (Xg.wrap_i64_in (by omega)) ?_)
        refine Xg.ops_op (by kernel_rfl) (Xg.opx_pure ((iv ((↑i : Int) + (1 : Int)))) rfl (fun _ => by kernel_rfl) ?_)
        refine Xg.ops_nil ?_
        refine Xg.at_inLoop ?_)
      (focus
        refine Xg.at_keep [0, 1, 2, 3] (by kernel_rfl) ?_
        refine Xs.same ?_ (fun J9 => ih (((i + 1)), J9) ?_ ?_) (by kernel_rfl))
      · rfl
      · refine ⟨by dsimp only; omega, fun j hj => ?_⟩
        by_cases hj' : j = i
        · subst hj'; exact ht
        · exact hI j (by omega)
      · dsimp only; omega
  · have := fidx_end default r (fun j hj => hI j (by omega))
    rw [hn] at this
    subst this
    clear ih
    (focus
      refine Xg.at_seq ?_
      refine Xg.at_region ?_
      refine Xg.ops_op (by kernel_rfl) (Xg.opx_pure (.bool (decide ((((↑i : Int)) : Int) < ((↑r.length : Int))))) rfl (fun _ => by kernel_rfl) ?_)
      refine Xg.ops_nil ?_
      refine Xg.at_seq ?_
      refine Xg.at_false (t := decide (((↑i : Int) < (↑r.length : Int)))) (by kernel_rfl) (decide_eq_false (by omega)) ?_
      refine Xg.at_exit rfl ?_
      refine Xg.at_seq ?_
      refine Xg.at_region ?_
      refine Xg.ops_op (by kernel_rfl) (Xg.opx_pure ((iv (-1))) rfl (fun _ => by kernel_rfl) ?_)
      refine Xg.ops_nil ?_
      refine Xg.at_ret_ps (v := (iv (-1))) [0, 1, 2, 3] [RP a c r, X1, X2, X3] Go.Proofs.Try.func26 (fun _ => by kernel_rfl) (by kernel_rfl) (by kernel_rfl) ?_
      exact ⟨by kernel_rfl, by kernel_rfl⟩)
end Go.Proofs.Ytijjficnhpokdaa

/- The sched package: the tests, find. -/
namespace Go.Proofs.Ytijjficnhpokdaa
open Go.Sl Go.Xg
set_option linter.unusedVariables false
set_option linter.unusedSimpArgs false
set_option maxHeartbeats 4000000
set_option maxRecDepth 100000

theorem findT_d (b : Nat) (id : Int) (X1 X2 X3 : HP) (x : Int × Bool) : Does Try.prog 41 [.agg #[.int .i64 x.1, .bool x.2], .pointer (some ⟨b, 0, none⟩)] [X1, row b 3 [.int .i64 id], X2, X3] (Ret (.bool (x.1 == id)) [X1, row b 3 [.int .i64 id], X2, X3]) := by
  rw [show (x.1 == id) = decide (x.1 = id) from rfl]
  (focus
    refine Xg.spec_of Go.Proofs.Try.func41 rfl Go.Proofs.Try.ntmps41 fun g F => ?_)
  (focus
    refine Xg.at_seq ?_
    refine Xg.at_region ?_
    refine Xg.ops_op (by kernel_rfl) (Xg.opx_box (v := (Value.agg #[iv x.fst, Value.bool x.snd])) [iv x.fst, Value.bool x.snd] (by kernel_rfl) (by kernel_rfl) fun xb1 => ?_)
    refine Xg.ops_op (by kernel_rfl) (Xg.opx_pure ((Value.bool false)) rfl (fun _ => by kernel_rfl) ?_)
    refine Xg.ops_nil ?_
    refine Xg.at_seq ?_
    refine Xg.at_region ?_
    refine Xg.ops_op (by kernel_rfl) (Xg.opx_pure ((pv xb1 0)) rfl (fun _ => by kernel_rfl) ?_)
    refine Xg.ops_op (by kernel_rfl) (Xg.opx_load (b := xb1) (off := ((0 : Nat))) 0 (iv x.fst) rfl (by kernel_rfl) (by kernel_rfl) (by kernel_rfl) ?_)
    refine Xg.ops_op (by kernel_rfl) (Xg.opx_load (b := b) (off := ((0 : Nat))) 2 (iv id) rfl (by kernel_rfl) (by kernel_rfl) (by kernel_rfl) ?_)
    refine Xg.ops_op (by kernel_rfl) (Xg.opx_pure (.bool (decide ((x.fst : Int) = id))) rfl (fun _ => by kernel_rfl) ?_)
    refine Xg.ops_op (by kernel_rfl) (Xg.opx_pure ((Value.bool (decide (x.fst = id)))) rfl (fun _ => by kernel_rfl) ?_)
    refine Xg.ops_nil ?_
    refine Xg.at_ret_ps (v := (Value.bool (decide (x.fst = id)))) [1, 2, 3, 4] [X1, row b (3 : TypeId) [iv id], X2, X3] Go.Proofs.Try.func41 (fun _ => by kernel_rfl) (by kernel_rfl) (by kernel_rfl) ?_
    exact ⟨by kernel_rfl, by kernel_rfl⟩)

/-- Where a number stands. -/
def at_ (id : Int) (r : List (Int × Bool)) : Int := fidx (fun x => x.1 == id) r

theorem find_d (p : Nat) (ra sa : Option Addr) (rc sn sc : Nat) (r : List (Int × Bool)) (S : HP) (id : Int) : Does Try.prog 30 [.pointer (some ⟨p, 0, none⟩), .int .i64 id] [RP ra rc r, HdP p ra r.length rc sa sn sc, S]
    (Ret (.int .i64 (at_ id r)) [RP ra rc r, HdP p ra r.length rc sa sn sc, S]) := by
  have hE : Go.Proofs.Enters Try.prog 41 := enters_of Try.func41 (by kernel_rfl) rfl
  have h := fun b => indexFunc_d 41 hE b (fun x => x.1 == id) (row b 3 [.int .i64 id]) (HdP p ra r.length rc sa sn sc) S ra rc r (fun x => findT_d b id _ _ _ x)
  unfold at_
  obtain ⟨n, hn⟩ : ∃ n, fidx (fun x : Int × Bool => x.1 == id) r = n := ⟨_, rfl⟩
  rw [hn] at h ⊢
  clear hE
  (focus
    refine Xg.spec_of Go.Proofs.Try.func30 rfl Go.Proofs.Try.ntmps30 fun g F => ?_)
  (focus
    refine Xg.at_seq ?_
    refine Xg.at_region ?_
    refine Xg.ops_op (by kernel_rfl) (Xg.opx_box (v := (iv id)) [(iv id)] (by kernel_rfl) (by kernel_rfl) fun xb1 => ?_)
    refine Xg.ops_op (by kernel_rfl) (Xg.opx_pure ((iv 0)) rfl (fun _ => by kernel_rfl) ?_)
    refine Xg.ops_nil ?_
    refine Xg.at_seq ?_
    refine Xg.at_region ?_
    refine Xg.ops_op (by kernel_rfl) (Xg.opx_pure ((pv p 0)) rfl (fun _ => by kernel_rfl) ?_)
    refine Xg.ops_op (by kernel_rfl) (Xg.opx_pure ((pv p 0)) rfl (fun _ => by kernel_rfl) ?_)
    refine Xg.ops_op (by kernel_rfl) (Xg.opx_pure ((pv p 0)) rfl (fun _ => by kernel_rfl) ?_)
    refine Xg.ops_op (by kernel_rfl) (Xg.opx_load (b := p) (off := ((0 : Nat))) 2 (Value.slice ra r.length rc) rfl (by kernel_rfl) (by kernel_rfl) (by kernel_rfl) ?_)
    refine Xg.ops_op (by kernel_rfl) (Xg.opx_pure ((Value.func (Fn.func (41 : Nat)) #[] #[pv xb1 0])) rfl (fun _ => by kernel_rfl) ?_)
    refine Xg.ops_op (by kernel_rfl) (Xg.opx_call1' [1, 0, 2, 3] [RP ra rc r, row xb1 (3 : TypeId) [iv id], HdP p ra r.length rc sa sn sc, S] (fun _ => by kernel_rfl) (@h (xb1)) (by kernel_rfl) (by kernel_rfl) (by kernel_rfl) ?_)
    refine Xg.ops_op (by kernel_rfl) (Xg.opx_pure ((iv n)) rfl (fun _ => by kernel_rfl) ?_)
    refine Xg.ops_nil ?_
    refine Xg.at_ret_ps (v := (iv n)) [0, 2, 3] [RP ra rc r, HdP p ra r.length rc sa sn sc, S] Go.Proofs.Try.func30 (fun _ => by kernel_rfl) (by kernel_rfl) (by kernel_rfl) ?_
    exact ⟨by kernel_rfl, by kernel_rfl⟩)

/-- Is it ready, and has it no turn? -/
def free (s : List Int) (x : Int × Bool) : Bool := x.2 && !decide (0 ≤ fidx (fun y => x.1 == y) s)

theorem beginT_d (b p : Nat) (H1 : HP) (ra sa : Option Addr) (rn rc sc : Nat) (s : List Int) (x : Int × Bool) : Does Try.prog 27 [.agg #[.int .i64 x.1, .bool x.2], .pointer (some ⟨b, 0, none⟩)]
    [H1, row b 29 [.pointer (some ⟨p, 0, none⟩)], HdP p ra rn rc sa s.length sc, SP sa sc s] (Ret (.bool (free s x)) [H1, row b 29 [.pointer (some ⟨p, 0, none⟩)], HdP p ra rn rc sa s.length sc, SP sa sc s]) := by
  have h := fun v => contains_d sa sc s v
  unfold free
  obtain ⟨x1, x2⟩ := x
  obtain ⟨t, ht⟩ : ∃ t, decide (0 ≤ fidx (fun y => x1 == y) s) = t := ⟨_, rfl⟩
  have h1 := h x1
  rw [ht] at h1
  dsimp only
  rw [ht]
  clear h ht
  cases x2
  · rw [Bool.false_and]
    (focus
      refine Xg.spec_of Go.Proofs.Try.func27 rfl Go.Proofs.Try.ntmps27 fun g F => ?_)
    (focus
      refine Xg.at_seq ?_
      refine Xg.at_region ?_
      refine Xg.ops_op (by kernel_rfl) (Xg.opx_box (v := (Value.agg #[iv x1, Value.bool false])) [iv x1, Value.bool false] (by kernel_rfl) (by kernel_rfl) fun xb1 => ?_)
      refine Xg.ops_op (by kernel_rfl) (Xg.opx_pure ((Value.bool false)) rfl (fun _ => by kernel_rfl) ?_)
      refine Xg.ops_nil ?_
      refine Xg.at_seq ?_
      refine Xg.at_draw [3, 6, 8, 9] [(1, [0, 1], Xg.CellIs (xb1) (((1 : Nat))) ((Value.bool false)))] (by kernel_rfl) ?_
      refine Xg.any_pure ((pv xb1 1)) 0 (by kernel_rfl) rfl (by kernel_rfl) (by kernel_rfl) (by kernel_rfl) (by kernel_rfl) rfl (fun _ => by kernel_rfl) ?_
      refine Xg.any_reads (Value.bool false) 1 0 (by kernel_rfl) rfl (by kernel_rfl) (by kernel_rfl) (by kernel_rfl) (by kernel_rfl) rfl rfl (by kernel_rfl) (Xg.cell_now (b := xb1) (off := ((1 : Nat))) 0 rfl (by kernel_rfl)) (fun _ h => Xg.run_load (by kernel_rfl) (by kernel_rfl) h) ?_
      refine Xg.any_pure ((Value.bool false)) 2 (by kernel_rfl) rfl (by kernel_rfl) (by kernel_rfl) (by kernel_rfl) (by kernel_rfl) rfl (fun _ => by kernel_rfl) ?_
      refine Xg.any_skip 7 (by kernel_rfl) rfl (by kernel_rfl) (by kernel_rfl) (by kernel_rfl) (by kernel_rfl) ?_
      refine Xg.any_each [3, 8] (by kernel_rfl) rfl ⟨?_, ?_, trivial⟩
      refine Xg.comes_skip rfl (by kernel_rfl) (by kernel_rfl) ?_
      refine Xg.acts (Xg.owes_skip (by kernel_rfl) Xg.owes_nil) ?_
      rotate_left
      refine Xg.comes_skip rfl (by kernel_rfl) (by kernel_rfl) ?_
      refine Xg.acts (Xg.owes_skip (by kernel_rfl) Xg.owes_nil) ?_
      rotate_left
      refine Xg.any_skip 4 (by kernel_rfl) rfl (by kernel_rfl) (by kernel_rfl) (by kernel_rfl) (by kernel_rfl) ?_
      refine Xg.any_skip 5 (by kernel_rfl) rfl (by kernel_rfl) (by kernel_rfl) (by kernel_rfl) (by kernel_rfl) ?_
      refine Xg.any_each [6, 8] (by kernel_rfl) rfl ⟨?_, ?_, trivial⟩
      refine Xg.comes_skip rfl (by kernel_rfl) (by kernel_rfl) ?_
      refine Xg.acts (Xg.owes_skip (by kernel_rfl) Xg.owes_nil) ?_
      rotate_left
      refine Xg.comes_skip rfl (by kernel_rfl) (by kernel_rfl) ?_
      refine Xg.acts (Xg.owes_skip (by kernel_rfl) Xg.owes_nil) ?_
      rotate_left
      refine Xg.any_each [3] (by kernel_rfl) rfl ⟨?_, trivial⟩
      refine Xg.comes_skip rfl (by kernel_rfl) (by kernel_rfl) ?_
      refine Xg.acts (Xg.owes_skip (by kernel_rfl) Xg.owes_nil) ?_
      refine Xg.any_skip 4 (by kernel_rfl) rfl (by kernel_rfl) (by kernel_rfl) (by kernel_rfl) (by kernel_rfl) ?_
      refine Xg.any_skip 5 (by kernel_rfl) rfl (by kernel_rfl) (by kernel_rfl) (by kernel_rfl) (by kernel_rfl) ?_
      refine Xg.any_each [6] (by kernel_rfl) rfl ⟨?_, trivial⟩
      refine Xg.comes_skip rfl (by kernel_rfl) (by kernel_rfl) ?_
      refine Xg.acts (Xg.owes_skip (by kernel_rfl) Xg.owes_nil) ?_
      refine Xg.any_each [9] (by kernel_rfl) rfl ⟨?_, trivial⟩
      refine Xg.comes_skip rfl (by kernel_rfl) (by kernel_rfl) ?_
      refine Xg.acts (Xg.owes_skip (by kernel_rfl) Xg.owes_nil) ?_
      refine Xg.any_skip 10 (by kernel_rfl) rfl (by kernel_rfl) (by kernel_rfl) (by kernel_rfl) (by kernel_rfl) ?_
      refine Xg.any_pure ((Value.bool false)) 11 (by kernel_rfl) rfl (by kernel_rfl) (by kernel_rfl) (by kernel_rfl) (by kernel_rfl) rfl (fun _ => by kernel_rfl) ?_
      refine Xg.any_pure ((Value.bool false)) 12 (by kernel_rfl) rfl (by kernel_rfl) (by kernel_rfl) (by kernel_rfl) (by kernel_rfl) rfl (fun _ => by kernel_rfl) ?_
      refine Xg.any_nil (by kernel_rfl) ?_
      refine Xg.at_ret_ps (v := (Value.bool false)) [1, 2, 3, 4] [H1, row b (29 : TypeId) [pv p 0], HdP p ra rn rc sa s.length sc, SP sa sc s] Go.Proofs.Try.func27 (fun _ => by kernel_rfl) (by kernel_rfl) (by kernel_rfl) ?_
      exact ⟨by kernel_rfl, by kernel_rfl⟩
      refine Xg.any_each [8] (by kernel_rfl) rfl ⟨?_, trivial⟩
      refine Xg.comes_skip rfl (by kernel_rfl) (by kernel_rfl) ?_
      refine Xg.acts (Xg.owes_skip (by kernel_rfl) Xg.owes_nil) ?_
      refine Xg.any_each [9] (by kernel_rfl) rfl ⟨?_, trivial⟩
      refine Xg.comes_skip rfl (by kernel_rfl) (by kernel_rfl) ?_
      refine Xg.acts (Xg.owes_skip (by kernel_rfl) Xg.owes_nil) ?_
      refine Xg.any_skip 10 (by kernel_rfl) rfl (by kernel_rfl) (by kernel_rfl) (by kernel_rfl) (by kernel_rfl) ?_
      refine Xg.any_pure ((Value.bool false)) 11 (by kernel_rfl) rfl (by kernel_rfl) (by kernel_rfl) (by kernel_rfl) (by kernel_rfl) rfl (fun _ => by kernel_rfl) ?_
      refine Xg.any_pure ((Value.bool false)) 12 (by kernel_rfl) rfl (by kernel_rfl) (by kernel_rfl) (by kernel_rfl) (by kernel_rfl) rfl (fun _ => by kernel_rfl) ?_
      refine Xg.any_nil (by kernel_rfl) ?_
      refine Xg.at_ret_ps (v := (Value.bool false)) [1, 2, 3, 4] [H1, row b (29 : TypeId) [pv p 0], HdP p ra rn rc sa s.length sc, SP sa sc s] Go.Proofs.Try.func27 (fun _ => by kernel_rfl) (by kernel_rfl) (by kernel_rfl) ?_
      exact ⟨by kernel_rfl, by kernel_rfl⟩
      refine Xg.any_each [6] (by kernel_rfl) rfl ⟨?_, trivial⟩
      refine Xg.comes_skip rfl (by kernel_rfl) (by kernel_rfl) ?_
      refine Xg.acts (Xg.owes_skip (by kernel_rfl) Xg.owes_nil) ?_
      refine Xg.any_each [9] (by kernel_rfl) rfl ⟨?_, trivial⟩
      refine Xg.comes_skip rfl (by kernel_rfl) (by kernel_rfl) ?_
      refine Xg.acts (Xg.owes_skip (by kernel_rfl) Xg.owes_nil) ?_
      refine Xg.any_skip 10 (by kernel_rfl) rfl (by kernel_rfl) (by kernel_rfl) (by kernel_rfl) (by kernel_rfl) ?_
      refine Xg.any_pure ((Value.bool false)) 11 (by kernel_rfl) rfl (by kernel_rfl) (by kernel_rfl) (by kernel_rfl) (by kernel_rfl) rfl (fun _ => by kernel_rfl) ?_
      refine Xg.any_pure ((Value.bool false)) 12 (by kernel_rfl) rfl (by kernel_rfl) (by kernel_rfl) (by kernel_rfl) (by kernel_rfl) rfl (fun _ => by kernel_rfl) ?_
      refine Xg.any_nil (by kernel_rfl) ?_
      refine Xg.at_ret_ps (v := (Value.bool false)) [1, 2, 3, 4] [H1, row b (29 : TypeId) [pv p 0], HdP p ra rn rc sa s.length sc, SP sa sc s] Go.Proofs.Try.func27 (fun _ => by kernel_rfl) (by kernel_rfl) (by kernel_rfl) ?_
      exact ⟨by kernel_rfl, by kernel_rfl⟩)
  · rw [Bool.true_and]
    cases t
    · rw [Bool.not_false]
      (focus
        refine Xg.spec_of Go.Proofs.Try.func27 rfl Go.Proofs.Try.ntmps27 fun g F => ?_)
      (focus
        refine Xg.at_seq ?_
        refine Xg.at_region ?_
        refine Xg.ops_op (by kernel_rfl) (Xg.opx_box (v := (Value.agg #[iv x1, Value.bool true])) [iv x1, Value.bool true] (by kernel_rfl) (by kernel_rfl) fun xb1 => ?_)
        refine Xg.ops_op (by kernel_rfl) (Xg.opx_pure ((Value.bool false)) rfl (fun _ => by kernel_rfl) ?_)
        refine Xg.ops_nil ?_
        refine Xg.at_seq ?_
        refine Xg.at_draw [9] [(1, [0, 1], Xg.CellIs (xb1) (((1 : Nat))) ((Value.bool true))), (3, [0, 1, 2, 3, 7, 8], Xg.CellIs (b) (((0 : Nat))) ((pv p 0))), (6, [0, 1, 2, 3, 4, 5, 6, 7, 8], Xg.CellIs (p) (((1 : Nat))) ((Value.slice sa s.length sc))), (8, [0, 1, 2, 3, 4, 5, 6, 7, 8], Xg.CellIs (xb1) (((0 : Nat))) ((iv x1)))] (by kernel_rfl) ?_
        refine Xg.any_pure ((pv xb1 1)) 0 (by kernel_rfl) rfl (by kernel_rfl) (by kernel_rfl) (by kernel_rfl) (by kernel_rfl) rfl (fun _ => by kernel_rfl) ?_
        refine Xg.any_reads (Value.bool true) 1 0 (by kernel_rfl) rfl (by kernel_rfl) (by kernel_rfl) (by kernel_rfl) (by kernel_rfl) rfl rfl (by kernel_rfl) (Xg.cell_now (b := xb1) (off := ((1 : Nat))) 0 rfl (by kernel_rfl)) (fun _ h => Xg.run_load (by kernel_rfl) (by kernel_rfl) h) ?_
        refine Xg.any_pure ((Value.bool true)) 2 (by kernel_rfl) rfl (by kernel_rfl) (by kernel_rfl) (by kernel_rfl) (by kernel_rfl) rfl (fun _ => by kernel_rfl) ?_
        refine Xg.any_reads (pv p 0) 3 1 (by kernel_rfl) rfl (by kernel_rfl) (by kernel_rfl) (by kernel_rfl) (by kernel_rfl) rfl rfl (by kernel_rfl) (Xg.cell_now (b := b) (off := ((0 : Nat))) 2 rfl (by kernel_rfl)) (fun _ h => Xg.run_load (by kernel_rfl) (by kernel_rfl) h) ?_
        refine Xg.any_pure ((pv p 0)) 4 (by kernel_rfl) rfl (by kernel_rfl) (by kernel_rfl) (by kernel_rfl) (by kernel_rfl) rfl (fun _ => by kernel_rfl) ?_
        refine Xg.any_pure ((pv p 1)) 5 (by kernel_rfl) rfl (by kernel_rfl) (by kernel_rfl) (by kernel_rfl) (by kernel_rfl) rfl (fun _ => by kernel_rfl) ?_
        refine Xg.any_reads (Value.slice sa s.length sc) 6 2 (by kernel_rfl) rfl (by kernel_rfl) (by kernel_rfl) (by kernel_rfl) (by kernel_rfl) rfl rfl (by kernel_rfl) (Xg.cell_now (b := p) (off := ((1 : Nat))) 3 rfl (by kernel_rfl)) (fun _ h => Xg.run_load (by kernel_rfl) (by kernel_rfl) h) ?_
        refine Xg.any_pure ((pv xb1 0)) 7 (by kernel_rfl) rfl (by kernel_rfl) (by kernel_rfl) (by kernel_rfl) (by kernel_rfl) rfl (fun _ => by kernel_rfl) ?_
        refine Xg.any_reads (iv x1) 8 3 (by kernel_rfl) rfl (by kernel_rfl) (by kernel_rfl) (by kernel_rfl) (by kernel_rfl) rfl rfl (by kernel_rfl) (Xg.cell_now (b := xb1) (off := ((0 : Nat))) 0 rfl (by kernel_rfl)) (fun _ h => Xg.run_load (by kernel_rfl) (by kernel_rfl) h) ?_
        refine Xg.any_each [9] (by kernel_rfl) rfl ⟨?_, trivial⟩
        refine Xg.comes_act rfl (by kernel_rfl) (by kernel_rfl) (Xg.opx_call1' [4] [ints (3 : TypeId) IntKind.i64 sa sc s, row xb1 (65 : Nat) [iv x1, Value.bool true], H1, row b (29 : TypeId) [pv p 0], HdP p ra rn rc sa s.length sc] (fun _ => by kernel_rfl) (@h1 ) (by kernel_rfl) (by kernel_rfl) (by kernel_rfl) ?_)
        refine Xg.acts (Xg.owes_skip (by kernel_rfl) (Xg.owes_skip (by kernel_rfl) (Xg.owes_skip (by kernel_rfl) (Xg.owes_skip (by kernel_rfl) Xg.owes_nil)))) ?_
        refine Xg.any_pure (.bool true) 10 (by kernel_rfl) rfl (by kernel_rfl) (by kernel_rfl) (by kernel_rfl) (by kernel_rfl) rfl (fun _ => by kernel_rfl) ?_
        refine Xg.any_pure ((Value.bool true)) 11 (by kernel_rfl) rfl (by kernel_rfl) (by kernel_rfl) (by kernel_rfl) (by kernel_rfl) rfl (fun _ => by kernel_rfl) ?_
        refine Xg.any_pure ((Value.bool true)) 12 (by kernel_rfl) rfl (by kernel_rfl) (by kernel_rfl) (by kernel_rfl) (by kernel_rfl) rfl (fun _ => by kernel_rfl) ?_
        refine Xg.any_nil (by kernel_rfl) ?_
        refine Xg.at_ret_ps (v := (Value.bool true)) [2, 3, 4, 0] [H1, row b (29 : TypeId) [pv p 0], HdP p ra rn rc sa s.length sc, ints (3 : TypeId) IntKind.i64 sa sc s] Go.Proofs.Try.func27 (fun _ => by kernel_rfl) (by kernel_rfl) (by kernel_rfl) ?_
        exact ⟨by kernel_rfl, by kernel_rfl⟩)
    · rw [Bool.not_true]
      (focus
        refine Xg.spec_of Go.Proofs.Try.func27 rfl Go.Proofs.Try.ntmps27 fun g F => ?_)
      (focus
        refine Xg.at_seq ?_
        refine Xg.at_region ?_
        refine Xg.ops_op (by kernel_rfl) (Xg.opx_box (v := (Value.agg #[iv x1, Value.bool true])) [iv x1, Value.bool true] (by kernel_rfl) (by kernel_rfl) fun xb1 => ?_)
        refine Xg.ops_op (by kernel_rfl) (Xg.opx_pure ((Value.bool false)) rfl (fun _ => by kernel_rfl) ?_)
        refine Xg.ops_nil ?_
        refine Xg.at_seq ?_
        refine Xg.at_draw [9] [(1, [0, 1], Xg.CellIs (xb1) (((1 : Nat))) ((Value.bool true))), (3, [0, 1, 2, 3, 7, 8], Xg.CellIs (b) (((0 : Nat))) ((pv p 0))), (6, [0, 1, 2, 3, 4, 5, 6, 7, 8], Xg.CellIs (p) (((1 : Nat))) ((Value.slice sa s.length sc))), (8, [0, 1, 2, 3, 4, 5, 6, 7, 8], Xg.CellIs (xb1) (((0 : Nat))) ((iv x1)))] (by kernel_rfl) ?_
        refine Xg.any_pure ((pv xb1 1)) 0 (by kernel_rfl) rfl (by kernel_rfl) (by kernel_rfl) (by kernel_rfl) (by kernel_rfl) rfl (fun _ => by kernel_rfl) ?_
        refine Xg.any_reads (Value.bool true) 1 0 (by kernel_rfl) rfl (by kernel_rfl) (by kernel_rfl) (by kernel_rfl) (by kernel_rfl) rfl rfl (by kernel_rfl) (Xg.cell_now (b := xb1) (off := ((1 : Nat))) 0 rfl (by kernel_rfl)) (fun _ h => Xg.run_load (by kernel_rfl) (by kernel_rfl) h) ?_
        refine Xg.any_pure ((Value.bool true)) 2 (by kernel_rfl) rfl (by kernel_rfl) (by kernel_rfl) (by kernel_rfl) (by kernel_rfl) rfl (fun _ => by kernel_rfl) ?_
        refine Xg.any_reads (pv p 0) 3 1 (by kernel_rfl) rfl (by kernel_rfl) (by kernel_rfl) (by kernel_rfl) (by kernel_rfl) rfl rfl (by kernel_rfl) (Xg.cell_now (b := b) (off := ((0 : Nat))) 2 rfl (by kernel_rfl)) (fun _ h => Xg.run_load (by kernel_rfl) (by kernel_rfl) h) ?_
        refine Xg.any_pure ((pv p 0)) 4 (by kernel_rfl) rfl (by kernel_rfl) (by kernel_rfl) (by kernel_rfl) (by kernel_rfl) rfl (fun _ => by kernel_rfl) ?_
        refine Xg.any_pure ((pv p 1)) 5 (by kernel_rfl) rfl (by kernel_rfl) (by kernel_rfl) (by kernel_rfl) (by kernel_rfl) rfl (fun _ => by kernel_rfl) ?_
        refine Xg.any_reads (Value.slice sa s.length sc) 6 2 (by kernel_rfl) rfl (by kernel_rfl) (by kernel_rfl) (by kernel_rfl) (by kernel_rfl) rfl rfl (by kernel_rfl) (Xg.cell_now (b := p) (off := ((1 : Nat))) 3 rfl (by kernel_rfl)) (fun _ h => Xg.run_load (by kernel_rfl) (by kernel_rfl) h) ?_
        refine Xg.any_pure ((pv xb1 0)) 7 (by kernel_rfl) rfl (by kernel_rfl) (by kernel_rfl) (by kernel_rfl) (by kernel_rfl) rfl (fun _ => by kernel_rfl) ?_
        refine Xg.any_reads (iv x1) 8 3 (by kernel_rfl) rfl (by kernel_rfl) (by kernel_rfl) (by kernel_rfl) (by kernel_rfl) rfl rfl (by kernel_rfl) (Xg.cell_now (b := xb1) (off := ((0 : Nat))) 0 rfl (by kernel_rfl)) (fun _ h => Xg.run_load (by kernel_rfl) (by kernel_rfl) h) ?_
        refine Xg.any_each [9] (by kernel_rfl) rfl ⟨?_, trivial⟩
        refine Xg.comes_act rfl (by kernel_rfl) (by kernel_rfl) (Xg.opx_call1' [4] [ints (3 : TypeId) IntKind.i64 sa sc s, row xb1 (65 : Nat) [iv x1, Value.bool true], H1, row b (29 : TypeId) [pv p 0], HdP p ra rn rc sa s.length sc] (fun _ => by kernel_rfl) (@h1 ) (by kernel_rfl) (by kernel_rfl) (by kernel_rfl) ?_)
        refine Xg.acts (Xg.owes_skip (by kernel_rfl) (Xg.owes_skip (by kernel_rfl) (Xg.owes_skip (by kernel_rfl) (Xg.owes_skip (by kernel_rfl) Xg.owes_nil)))) ?_
        refine Xg.any_pure (.bool false) 10 (by kernel_rfl) rfl (by kernel_rfl) (by kernel_rfl) (by kernel_rfl) (by kernel_rfl) rfl (fun _ => by kernel_rfl) ?_
        refine Xg.any_pure ((Value.bool false)) 11 (by kernel_rfl) rfl (by kernel_rfl) (by kernel_rfl) (by kernel_rfl) (by kernel_rfl) rfl (fun _ => by kernel_rfl) ?_
        refine Xg.any_pure ((Value.bool false)) 12 (by kernel_rfl) rfl (by kernel_rfl) (by kernel_rfl) (by kernel_rfl) (by kernel_rfl) rfl (fun _ => by kernel_rfl) ?_
        refine Xg.any_nil (by kernel_rfl) ?_
        refine Xg.at_ret_ps (v := (Value.bool false)) [2, 3, 4, 0] [H1, row b (29 : TypeId) [pv p 0], HdP p ra rn rc sa s.length sc, ints (3 : TypeId) IntKind.i64 sa sc s] Go.Proofs.Try.func27 (fun _ => by kernel_rfl) (by kernel_rfl) (by kernel_rfl) ?_
        exact ⟨by kernel_rfl, by kernel_rfl⟩)
end Go.Proofs.Ytijjficnhpokdaa

/- Symbolic running: append and clear inside a slice of one's own (what slices.Delete does), slices of three. Over any program. -/
namespace Go.Xg
open Go Go.Sl
set_option linter.unusedVariables false
section
variable {P : Program} {f : FuncId} {g : World} {F : List HP} {R : Ending → World → Prop} {k : List Item} {T : List Value} {L : List HP} {K : List Value → List HP → Prop}

theorem run_sl3 {d : Option Tmp} {t ty elem : TypeId} {x lo hi mx : Operand} {pos : String} {after : Array Edge} {gd : Option (Nat × Bool)} {k1 k2 k3 : IntKind} {e1 e2 e3 : Int} {a : Option Addr} {c len : Nat} (sz l h m : Nat)
    (hu : slTy P t elem = true) (hs : szIs P elem sz = true) (hx : ev T x = .slice a len c) (h1 : ev T lo = .int k1 e1) (h2 : ev T hi = .int k2 e2) (h3 : ev T mx = .int k3 e3) (he1 : e1 = l) (he2 : e2 = h) (he3 : e3 = m) (hlh : l ≤ h) (hhm : h ≤ m) (hmc : m ≤ c) (w : World) :
    (execOp (act T).eval { dst := d, op := .slice t x (some lo) (some hi) (some mx), type := ty, pos, after, guard := gd }).run P w = .ok (.value (.slice (subA a m l sz) (h - l) (m - l))) w := by
  obtain ⟨i, hi', rfl⟩ := szIs_info hs
  subst he1; subst he2; subst he3
  have hu := slTy_u hu
  simp [execOp, Instr.sliceAt, Instr.slice, Instr.sliceBounds, Instr.sliceBound, act_eval, hx, h1, h2, h3, asIntOf, run_underlying hu, sizeOf, typeInfo, hi', hhm, hmc, hlh, subA]

/-- append within what one owns. -/
theorem opx_append_in {d : Nat} {t ty elem : TypeId} {x y : Operand} {pos : String} {after : Array Edge} {gd : Option (Nat × Bool)} {yv : Value} {a : Option Addr} {n c l m : Nat} {vs news : List Value} (N i sz : Nat) (hN : l + m = N)
    (hL : nth L i = some (ownS elem sz (.slice a n c) n vs)) (hu : slTy P t elem = true) (hE : okTy P elem sz = true) (hx : ev T x = .slice a l c) (hy : ev T y = yv)
    (hr : ∀ w, SL g (L ++ F) w → Rd w sz yv m news) (h1 : ∀ u ∈ news, u.oneCell' = true) (hn : 0 < n) (hlm : l + m ≤ n)
    (h : K (T.set d (.slice a N c)) (L.set i (ownS elem sz (.slice a n c) n (vs.take (l * sz) ++ news ++ vs.drop ((l + m) * sz))))) :
    OpX P g F { dst := some d, op := .call { callee := .builtin .append, args := #[x, y], argTypes := #[t, t] }, type := ty, pos, after, guard := gd } T L K := by
  subst hN
  constructor
  intro w hS
  have hR := hr w hS
  obtain ⟨z, by_, hEl⟩ := okTy_el hE
  have hnl : news.length = m * sz := by obtain ⟨_, _, _, h, _⟩ := hR; exact h
  obtain ⟨hl, ⟨e, h0, _⟩ | ⟨b, cap, sp, e, hn', hm, hsp, hrw⟩⟩ := (sl_at i hL hS).own_cases
  · omega
  · cases e
    have hle : (l + m) * sz ≤ n * sz := Nat.mul_le_mul_right _ hlm
    have ha : (l + m) * sz = l * sz + m * sz := Nat.add_mul _ _ _
    have hrun := run_append_room' w t ty elem z sz by_ (slTy_u hu) hEl yv b l c m (vs ++ sp) news (hrw.get (.head _)) hR h1 (by omega) (by rw [List.length_append, hl, hnl]; omega)
    refine op_value (exec_append _ (by rw [act_eval, act_eval, hx, hy]; exact hrun)) ⟨_, _, by rw [act_put]; rfl, sl_back i hL ?_, h⟩
    have e1 : (vs ++ sp).take (l * sz) ++ news ++ (vs ++ sp).drop (l * sz + news.length) = (vs.take (l * sz) ++ news ++ vs.drop ((l + m) * sz)) ++ sp := by
      rw [List.take_append_of_le_length (by omega), List.drop_append_of_le_length (by omega), hnl, ← ha]
      simp
    have h' := hrw.setRow ((vs ++ sp).take (l * sz) ++ news ++ (vs ++ sp).drop (l * sz + news.length))
    rw [e1] at h' ⊢
    refine SL.own_some h' ?_ hn' hm hsp
    rw [List.length_append, List.length_append, List.length_take, List.length_drop, hnl, hl]
    omega

theorem run_clear_any {w : World} {t ty elem : TypeId} {z : Value} {by_ sz b off n c : Nat} {E : TypeId} {cs : List Value} (hu : P.underlying t = some (.slice elem)) (hE : El P elem z sz by_)
    (hz : ∀ u ∈ z.cells.toList, u.oneCell' = true) (hb : w.heap[b]? = some (.cells cs.toArray E)) (hfit : off + n * sz ≤ cs.length) (hpos : 0 < n) :
    (Builtin.clear_ #[t] ty #[.slice (some ⟨b, off, none⟩) n c]).run P w = .ok (.tuple #[]) (w.setRow b (cs.take off ++ (Builtin.zeroCells z.cells n).toList ++ cs.drop (off + n * sz)).toArray) := by
  obtain ⟨i, hi, hz', hs1, rfl, hzs⟩ := hE
  have hl : (Builtin.zeroCells z.cells n).toList.length = n * sz := by rw [zeroCells_list, hzs]
  have hst := run_storeCells_at P b off E (Builtin.zeroCells z.cells n).toList 0 cs.toArray w hb (by simp only [Nat.add_zero, List.size_toArray]; rw [hl]; exact hfit) (fun v hv => by
    refine hz v ?_
    simp only [Builtin.zeroCells, Array.toList_map] at hv
    obtain ⟨j, hj, rfl⟩ := List.mem_map.1 hv
    have hj : j < n * z.cells.size := by simpa using hj
    have hp : 0 < z.cells.size := by
      rcases Nat.eq_zero_or_pos z.cells.size with h | h
      · rw [h, Nat.mul_zero] at hj; omega
      · exact h
    have hm : j % z.cells.size < z.cells.size := Nat.mod_lt _ hp
    rw [getElem!_pos z.cells _ hm]
    exact Array.getElem_mem_toList hm)
  simp only [Nat.add_zero, hl] at hst
  obtain ⟨m, rfl⟩ : ∃ m, n = m + 1 := ⟨n - 1, by omega⟩
  simp [Builtin.clear_, run_underlying hu, typeInfo, zeroValue, hi, hz', hst]

def zOne (P : Program) (t : TypeId) : Bool := match P.info? t with
  | some i => match i.zero with
    | some z => z.cells.toList.all (·.oneCell')
    | none => false
  | none => false

theorem zOne_el {t : TypeId} {z : Value} {sz by_ : Nat} (h : zOne P t = true) (hE : El P t z sz by_) : ∀ u ∈ z.cells.toList, u.oneCell' = true := by
  obtain ⟨i, hi, hz, _, _, _⟩ := hE
  unfold zOne at h
  rw [hi] at h
  simp only [hz] at h
  exact fun u hu => List.all_eq_true.1 h u hu

/-- clear of the last ones of what one owns. -/
theorem opx_clear_in {d : Option Nat} {t ty elem : TypeId} {x : Operand} {pos : String} {after : Array Edge} {gd : Option (Nat × Bool)} {a : Option Addr} {n c l m c' : Nat} {vs : List Value} (i sz : Nat)
    (hL : nth L i = some (ownS elem sz (.slice a n c) n vs)) (hu : slTy P t elem = true) (hE : okTy P elem sz = true) (hz : zOne P elem = true) (hx : ev T x = .slice (subA a c l sz) m c') (hlm : l + m = n) (hm0 : 0 < m)
    (h : ∀ zs, zs.length = m * sz → K (putD d (.tuple #[]) T) (L.set i (ownS elem sz (.slice a n c) n (vs.take (l * sz) ++ zs)))) :
    OpX P g F { dst := d, op := .call { callee := .builtin .clear, args := #[x], argTypes := #[t] }, type := ty, pos, after, guard := gd } T L K := by
  constructor
  intro w hS
  obtain ⟨z, by_, hEl⟩ := okTy_el hE
  have hzs : z.cells.size = sz := by obtain ⟨_, _, _, _, _, h⟩ := hEl; exact h
  obtain ⟨hl, ⟨e, h0, _⟩ | ⟨b, cap, sp, e, hn', hm, hsp, hrw⟩⟩ := (sl_at i hL hS).own_cases
  · omega
  · cases e
    have ha : n * sz = l * sz + m * sz := by rw [← Nat.add_mul, hlm]
    have hx' : ev T x = .slice (some ⟨b, l * sz, none⟩) m c' := by
      rw [hx]; unfold subA
      rw [if_neg (by omega)]
      show Value.slice (some (Addr.add ⟨b, 0, none⟩ (l * sz))) m c' = _
      rw [Addr.add_lit, Nat.zero_add]
    have hrun := run_clear_any (P := P) (c := c') (ty := ty) (w := w) (slTy_u hu) hEl (zOne_el hz hEl) (hrw.get (.head _)) (off := l * sz) (n := m) (by rw [List.length_append, hl]; omega) hm0
    have h' := hrw.setRow ((vs ++ sp).take (l * sz) ++ (Builtin.zeroCells z.cells m).toList ++ (vs ++ sp).drop (l * sz + m * sz))
    have hzl : (Builtin.zeroCells z.cells m).toList.length = m * sz := by rw [zeroCells_list, hzs]
    have e1 : (vs ++ sp).take (l * sz) ++ (Builtin.zeroCells z.cells m).toList ++ (vs ++ sp).drop (l * sz + m * sz) = (vs.take (l * sz) ++ (Builtin.zeroCells z.cells m).toList) ++ sp := by
      rw [List.take_append_of_le_length (by omega), ← ha, ← hl, List.drop_left]
    rw [e1] at h' hrun
    refine op_value (exec_clear _ (by rw [act_eval, hx']; exact hrun)) ⟨_, _, by rw [act_put], sl_back i hL ?_, h _ hzl⟩
    refine SL.own_some h' ?_ hn' hm hsp
    rw [List.length_append, List.length_take, hzl, hl]
    omega

/-- A slice of one's own, made shorter. -/
theorem at_shrink {E sz : Nat} {a : Option Addr} {n c m : Nat} {us zs : List Value} (i : Nat) (hL : nth L i = some (ownS E sz (.slice a n c) n (us ++ zs))) (hm : m ≤ n) (hl : us.length = m * sz)
    (h : At P f g F R k T (L.set i (ownS E sz (.slice a m c) m us))) : At P f g F R k T L := h.sl fun w hS => by
  refine sl_back i hL ?_
  obtain ⟨hl', ⟨e, h0, h1⟩ | ⟨b, cap, sp, e, hn', hmx, hsp, hrw⟩⟩ := (sl_at i hL hS).own_cases
  · cases e
    have : m = 0 := by omega
    subst this
    have : us = [] := by simpa using hl
    subst this
    exact h1.own_nil E sz
  · cases e
    rw [List.append_assoc] at hrw
    refine SL.own_some hrw hl (by omega) hmx ?_
    rw [List.length_append] at hl' ⊢
    rw [hsp, Nat.sub_mul, Nat.sub_mul]
    have : n * sz ≤ c * sz := Nat.mul_le_mul_right _ hn'
    omega
theorem sub_at {b c o : Nat} (h : o ≠ c) : subA (some ⟨b, 0, none⟩) c o 1 = some ⟨b, o, none⟩ := by
  unfold subA
  rw [if_neg (fun e => h e.symm)]
  show some (Addr.add ⟨b, 0, none⟩ (o * 1)) = _
  rw [Addr.add_lit, Nat.zero_add, Nat.mul_one]
/-- copy into a part of what one owns. -/
theorem opx_copy_in {d : Nat} {dT sT ty elem : TypeId} {x y : Operand} {pos : String} {after : Array Edge} {gd : Option (Nat × Bool)} {a ax : Option Addr} {c cx : Nat} {yv : Value} {kd : IntKind} {xs ys : List Int} (i by_ o m : Nat) (xs' : List Int) (r : Int)
    (hL : nth L i = some (ints elem kd a c xs)) (hu : slTy P dT elem = true) (hE : intTy P elem kd by_ = true) (hx : ev T x = .slice ax m cx) (hax : ∀ b, a = some ⟨b, 0, none⟩ → ax = some ⟨b, o, none⟩) (hy : ev T y = yv)
    (hr : ∀ w, SL g (L ++ F) w → Rd w 1 yv ys.length (ys.map (Value.int kd))) (hn : 0 < xs.length) (hom : o + m ≤ xs.length) (hv : xs.take o ++ ys.take m ++ xs.drop (o + min ys.length m) = xs') (hl : xs'.length = xs.length) (hrv : r = ((min ys.length m : Nat) : Int))
    (h : K (T.set d (.int .i64 r)) (L.set i (ints elem kd a c xs'))) :
    OpX P g F { dst := some d, op := .call { callee := .builtin .copy, args := #[x, y], argTypes := #[dT, sT] }, type := ty, pos, after, guard := gd } T L K := by
  subst hrv
  constructor
  intro w hS
  have hR := hr w hS
  obtain ⟨hl1, ⟨e, h0, _⟩ | ⟨b, cap, sp, e, hn', hm, hsp, hrw⟩⟩ := (sl_at i hL hS).own_cases
  · omega
  · cases e
    have hx' := hax b rfl
    subst hx'
    have hmin : Nat.min ys.length m = min ys.length m := rfl
    obtain ⟨w', hr', h'⟩ := hrw.copy dT sT ty elem (.int kd 0) by_ (slTy_u hu) (intTy_el hE) (dLen := m) (dCap := cx) (o := o) hR (fun u hu => by obtain ⟨z, _, rfl⟩ := List.mem_map.1 hu; rfl) (by rw [List.length_append, List.length_map]; omega)
    refine op_value (exec_copy _ (by rw [act_eval, act_eval, hx, hy]; exact hr')) ⟨_, _, by rw [act_put]; rfl, sl_back i hL ?_, h⟩
    have e1 : (xs.map (Value.int kd) ++ sp).take o ++ (ys.map (Value.int kd)).take m ++ (xs.map (Value.int kd) ++ sp).drop (o + Nat.min ys.length m) = xs'.map (Value.int kd) ++ sp := by
      rw [List.take_append_of_le_length (by rw [List.length_map]; omega), List.drop_append_of_le_length (by rw [List.length_map]; omega), ← hv, hmin]
      simp [List.map_take, List.map_drop]
    rw [e1] at h'
    unfold ints
    rw [hl]
    exact SL.own_some h' (by rw [List.length_map, hl, Nat.mul_one]) hn' hm hsp
theorem reads_hi {E sz n c : Nat} {a : Option Addr} {vs : List Value} (h : Nat) (hh : h ≤ n) : Reads (ownS E sz (.slice a n c) n vs) sz (.slice a h c) h (vs.take (h * sz)) := by
  refine ⟨fun g F w hS => ?_⟩
  obtain ⟨a', c', e, hl, hc⟩ := hS.own_rd
  cases e
  refine ⟨_, _, rfl, ?_, fun j u hu => ?_⟩
  · rw [List.length_take, hl]
    exact Nat.min_eq_left (Nat.mul_le_mul_right _ hh)
  · rw [List.getElem?_take] at hu
    split at hu
    · exact hc j u hu
    · cases hu
/-- A slice of one's own stands at the beginning of its block. -/
theorem at_off {E sz n c : Nat} {a : Option Addr} {vs : List Value} (i : Nat) (hL : nth L i = some (ownS E sz (.slice a n c) n vs)) (hn : 0 < n) (h : offA a = 0 → At P f g F R k T L) : At P f g F R k T L :=
  ⟨fun w hS => (h (by rw [(own_some hS i hL).2.2.2.1 hn]; rfl)).run w hS⟩
end
end Go.Xg

/- The sched package: slices.Delete of one of the round. -/
namespace Go.Proofs.Ytijjficnhpokdaa
open Go.Sl Go.Xg
set_option linter.unusedVariables false
set_option linter.unusedSimpArgs false
set_option maxHeartbeats 4000000
set_option maxRecDepth 100000

theorem mc_drop (r : List (Int × Bool)) (i : Nat) : (recs mc r).drop (i * 2) = recs mc (r.drop i) := by
  induction r generalizing i with
  | nil => simp [recs]
  | cons x r ih =>
    cases i with
    | zero => simp
    | succ i =>
      have := ih i
      rw [List.drop_succ_cons, ← this, show (i + 1) * 2 = i * 2 + 1 + 1 from by omega]
      simp [recs, mc]
theorem mc_take (r : List (Int × Bool)) (i : Nat) : (recs mc r).take (i * 2) = recs mc (r.take i) := by
  induction r generalizing i with
  | nil => simp [recs]
  | cons x r ih =>
    cases i with
    | zero => simp [recs]
    | succ i =>
      have := ih i
      rw [List.take_succ_cons, show (i + 1) * 2 = i * 2 + 1 + 1 from by omega]
      simp only [recs, List.flatMap_cons] at *
      rw [← this]
      simp [mc]
theorem mc_app (r s : List (Int × Bool)) : recs mc (r ++ s) = recs mc r ++ recs mc s := by simp [recs]
theorem mc_len (r : List (Int × Bool)) : (recs mc r).length = r.length * 2 := recs_len (wd := 2) (fun _ => rfl) r
theorem mc_one (r : List (Int × Bool)) : ∀ u ∈ recs mc r, u.oneCell' = true := fun u hu => by
  obtain ⟨x, _, hx⟩ := List.mem_flatMap.1 hu
  simp only [mc, List.mem_cons, List.not_mem_nil, or_false] at hx
  rcases hx with rfl | rfl <;> rfl

theorem delete0_d (a : Option Addr) (c : Nat) (r : List (Int × Bool)) (i : Nat) (hi : i < r.length) : Does Try.prog 29 [.slice a r.length c, .int .i64 (i : Nat), .int .i64 ((i : Int) + 1)] [RP a c r]
    (Ret (.slice a (r.length - 1) c) [ownS 65 2 (.slice a (r.length - 1) c) (r.length - 1) (recs mc (r.eraseIdx i))]) := by
  (focus
    refine Xg.spec_of Go.Proofs.Try.func29 rfl Go.Proofs.Try.ntmps29 fun g F => ?_)
  refine Xg.at_own 0 rfl fun h1 h2 _ _ => ?_
  have hm : r.length ≤ maxLen := Nat.le_trans h1 h2
  unfold maxLen at hm h2
  (focus
    refine Xg.at_seq ?_
    refine Xg.at_region ?_
    refine Xg.ops_op (by kernel_rfl) (Xg.opx_pure ((Value.slice none (0 : Nat) (0 : Nat))) rfl (fun _ => by kernel_rfl) ?_)
    refine Xg.ops_nil ?_
    refine Xg.at_seq ?_
    refine Xg.at_region ?_
    refine Xg.ops_op (by kernel_rfl) (Xg.opx_pure ((Value.slice a r.length c)) rfl (fun _ => by kernel_rfl) ?_)
    refine Xg.ops_op (by kernel_rfl) (Xg.opx_pure ((iv (↑i : Int))) rfl (fun _ => by kernel_rfl) ?_)
    refine Xg.ops_op (by kernel_rfl) (Xg.opx_pure ((iv ((↑i : Int) + (1 : Int)))) rfl (fun _ => by kernel_rfl) ?_)
    refine Xg.ops_op (by kernel_rfl) (Xg.opx_pure ((Value.slice a r.length c)) rfl (fun _ => by kernel_rfl) ?_)
    refine Xg.ops_op (by kernel_rfl) (Xg.opx_pure ((iv (↑r.length : Int))) rfl (fun _ => by kernel_rfl) ?_)
    refine Xg.ops_op (by kernel_rfl) (Xg.opx_run (.slice (Xg.subA a r.length i 2) ((((↑i : Int) + (1 : Int)).toNat) - i) (r.length - i)) rfl (Xg.run_sl3 (elem := 65) (a := a) (c := c) (len := r.length) (k1 := .i64) (k2 := .i64) (k3 := .i64) (e1 := ((↑i : Int))) (e2 := ((↑i : Int) + (1 : Int))) (e3 := ((↑r.length : Int))) 2 i (((↑i : Int) + (1 : Int)).toNat) r.length (by kernel_rfl) (by kernel_rfl) (by kernel_rfl) (by kernel_rfl) (by kernel_rfl) (by kernel_rfl) rfl (by omega) rfl (by omega) (by omega) (by omega)) ?_)
    refine Xg.ops_nil ?_
    refine Xg.at_seq ?_
    refine Xg.at_seq ?_
    refine Xg.at_region ?_
    refine Xg.ops_op (by kernel_rfl) (Xg.opx_pure ((iv (↑i : Int))) rfl (fun _ => by kernel_rfl) ?_)
    refine Xg.ops_op (by kernel_rfl) (Xg.opx_pure ((iv ((↑i : Int) + (1 : Int)))) rfl (fun _ => by kernel_rfl) ?_)
    refine Xg.ops_op (by kernel_rfl) (Xg.opx_pure (.bool (decide ((((↑i : Int)) : Int) = ((↑i : Int) + (1 : Int))))) rfl (fun _ => by kernel_rfl) ?_)
    refine Xg.ops_nil ?_
    refine Xg.at_false (t := decide (((↑i : Int) = (↑i : Int) + (1 : Int)))) (by kernel_rfl) (decide_eq_false (by omega)) ?_
    refine Xg.at_skip ?_
    refine Xg.at_seq ?_
    refine Xg.at_region ?_
    refine Xg.ops_op (by kernel_rfl) (Xg.opx_pure ((Value.slice a r.length c)) rfl (fun _ => by kernel_rfl) ?_)
    refine Xg.ops_op (by kernel_rfl) (Xg.opx_pure ((iv (↑r.length : Int))) rfl (fun _ => by kernel_rfl) ?_)
    refine Xg.ops_op (by kernel_rfl) (Xg.opx_pure ((iv (↑r.length : Int))) rfl (fun _ => by kernel_rfl) ?_)
    refine Xg.ops_nil ?_
    refine Xg.at_seq ?_
    refine Xg.at_draw [6] [] (by kernel_rfl) ?_
    refine Xg.any_pure ((Value.slice a r.length c)) 0 (by kernel_rfl) rfl (by kernel_rfl) (by kernel_rfl) (by kernel_rfl) (by kernel_rfl) rfl (fun _ => by kernel_rfl) ?_
    refine Xg.any_pure ((iv (↑i : Int))) 1 (by kernel_rfl) rfl (by kernel_rfl) (by kernel_rfl) (by kernel_rfl) (by kernel_rfl) rfl (fun _ => by kernel_rfl) ?_
    refine Xg.any_pure (.slice a i c) 2 (by kernel_rfl) rfl (by kernel_rfl) (by kernel_rfl) (by kernel_rfl) (by kernel_rfl) rfl (Xg.run_sl_hi (elem := 65) (a := a) (c := c) (len := r.length) (k2 := .i64) (e2 := ((↑i : Int))) 2 i (by kernel_rfl) (by kernel_rfl) (by kernel_rfl) (by kernel_rfl) rfl (by omega)) ?_
    refine Xg.any_pure ((Value.slice a r.length c)) 3 (by kernel_rfl) rfl (by kernel_rfl) (by kernel_rfl) (by kernel_rfl) (by kernel_rfl) rfl (fun _ => by kernel_rfl) ?_
    refine Xg.any_pure ((iv ((↑i : Int) + (1 : Int)))) 4 (by kernel_rfl) rfl (by kernel_rfl) (by kernel_rfl) (by kernel_rfl) (by kernel_rfl) rfl (fun _ => by kernel_rfl) ?_
    refine Xg.any_pure (.slice (Xg.subA a c (((↑i : Int) + (1 : Int)).toNat) 2) (r.length - (((↑i : Int) + (1 : Int)).toNat)) (c - (((↑i : Int) + (1 : Int)).toNat))) 5 (by kernel_rfl) rfl (by kernel_rfl) (by kernel_rfl) (by kernel_rfl) (by kernel_rfl) rfl (Xg.run_sl_lo (elem := 65) (a := a) (c := c) (len := r.length) (k1 := .i64) (e1 := ((↑i : Int) + (1 : Int))) 2 (((↑i : Int) + (1 : Int)).toNat) (by kernel_rfl) (by kernel_rfl) (by kernel_rfl) (by kernel_rfl) (by omega) (by omega)) ?_)
  refine Xg.any_each [6] (by kernel_rfl) rfl ⟨?_, trivial⟩
  refine Xg.comes_act rfl (by kernel_rfl) (by kernel_rfl) (Xg.opx_append_in (elem := 65) (n := r.length) (c := c) (l := i) (m := r.length - ((i : Int) + 1).toNat) (news := (((recs mc r).drop (((i : Int) + 1).toNat * 2)).take ((r.length - ((i : Int) + 1).toNat) * 2))) (r.length - 1) 0 2 (by omega) rfl (by kernel_rfl) (by kernel_rfl) (by kernel_rfl) (by kernel_rfl) (fun w hS => reads_rd (reads_part ((i : Int) + 1).toNat r.length (by omega) (Nat.le_refl _)) 0 rfl hS) (fun u hu => mc_one r u (List.mem_of_mem_drop (List.mem_of_mem_take hu))) (by omega) (by omega) ?_)
  refine Xg.acts Xg.owes_nil ?_
  (focus
    refine Xg.any_pure ((Value.slice a (r.length - (1 : Nat)) c)) 7 (by kernel_rfl) rfl (by kernel_rfl) (by kernel_rfl) (by kernel_rfl) (by kernel_rfl) rfl (fun _ => by kernel_rfl) ?_
    refine Xg.any_nil (by kernel_rfl) ?_
    refine Xg.at_seq ?_
    refine Xg.at_region ?_
    refine Xg.ops_op (by kernel_rfl) (Xg.opx_pure ((Value.slice a (r.length - (1 : Nat)) c)) rfl (fun _ => by kernel_rfl) ?_)
    refine Xg.ops_op (by kernel_rfl) (Xg.opx_pure ((Value.slice a (r.length - (1 : Nat)) c)) rfl (fun _ => by kernel_rfl) ?_)
    refine Xg.ops_op (by kernel_rfl) (Xg.opx_pure ((iv (↑(r.length - (1 : Nat)) : Int))) rfl (fun _ => by kernel_rfl) ?_)
    refine Xg.ops_op (by kernel_rfl) (Xg.opx_pure ((iv (↑r.length : Int))) rfl (fun _ => by kernel_rfl) ?_)
    refine Xg.ops_op (by kernel_rfl) (Xg.opx_run (.slice (Xg.subA a c (r.length - (1 : Nat)) 2) (r.length - (r.length - (1 : Nat))) (c - (r.length - (1 : Nat)))) rfl (Xg.run_sl (elem := 65) (a := a) (c := c) (len := (r.length - (1 : Nat))) (k1 := .i64) (k2 := .i64) (e1 := ((↑(r.length - (1 : Nat)) : Int))) (e2 := ((↑r.length : Int))) 2 (r.length - (1 : Nat)) r.length (by kernel_rfl) (by kernel_rfl) (by kernel_rfl) (by kernel_rfl) (by kernel_rfl) rfl rfl (by omega) (by omega)) ?_))
  refine Xg.ops_op (by kernel_rfl) (Xg.opx_clear_in (elem := 65) (n := r.length) (c := c) (l := r.length - 1) (m := r.length - (r.length - 1)) (c' := c - (r.length - 1)) 0 2 rfl (by kernel_rfl) (by kernel_rfl) (by kernel_rfl) (by kernel_rfl) (by omega) (by omega) fun zs hz => ?_)
  rw [mc_take, mc_drop, mc_drop, mc_take, ← mc_app, ← mc_app, mc_take, show ((i : Int) + 1).toNat = i + 1 from by omega]
  rw [show (r.take i ++ (r.drop (i + 1)).take (r.length - (i + 1)) ++ r.drop (i + (r.length - (i + 1)))).take (r.length - 1) = r.eraseIdx i from by
    rw [List.eraseIdx_eq_take_drop_succ, List.take_of_length_le (l := r.drop (i + 1)) (by simp), List.take_append_of_le_length (by simp; omega), List.take_of_length_le (by simp; omega)]]
  refine Xg.ops_nil ?_
  refine Xg.at_shrink (m := r.length - 1) 0 rfl (by omega) (by rw [mc_len, List.length_eraseIdx, if_pos hi]) ?_
  (focus
    refine Xg.at_seq ?_
    refine Xg.at_region ?_
    refine Xg.ops_op (by kernel_rfl) (Xg.opx_pure ((Value.slice a (r.length - (1 : Nat)) c)) rfl (fun _ => by kernel_rfl) ?_)
    refine Xg.ops_op (by kernel_rfl) (Xg.opx_pure ((Value.slice a (r.length - (1 : Nat)) c)) rfl (fun _ => by kernel_rfl) ?_)
    refine Xg.ops_nil ?_
    refine Xg.at_ret_ps (v := (Value.slice a (r.length - (1 : Nat)) c)) [0] [ownS (65 : TypeId) (2 : Nat) (Value.slice a (r.length - (1 : Nat)) c) (r.length - (1 : Nat)) (recs mc (r.eraseIdx i))] Go.Proofs.Try.func29 (fun _ => by kernel_rfl) (by kernel_rfl) (by kernel_rfl) ?_
    exact ⟨by kernel_rfl, by kernel_rfl⟩)
theorem delete_d (a : Option Addr) (c : Nat) (r : List (Int × Bool)) (i : Nat) (hi : i < r.length) : Does Try.prog 29 [.slice a r.length c, .int .i64 (i : Nat), .int .i64 ((i : Int) + 1)] [RP a c r]
    (Ret (.slice a (r.eraseIdx i).length c) [RP a c (r.eraseIdx i)]) := by
  have h := delete0_d a c r i hi
  have e : (r.eraseIdx i).length = r.length - 1 := by rw [List.length_eraseIdx, if_pos hi]
  unfold RP recsO at h ⊢
  rwa [e]
end Go.Proofs.Ytijjficnhpokdaa
