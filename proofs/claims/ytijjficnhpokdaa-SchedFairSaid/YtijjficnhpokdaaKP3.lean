/- The sched package: the tests, find. -/
import Derived.Test.YtijjficnhpokdaaKP2
import Derived.Test.YtijjficnhpokdaaKS
namespace Go.Proofs.Ytijjficnhpokdaa
open Go.Sl Go.Xg
set_option linter.unusedVariables false
set_option linter.unusedSimpArgs false
set_option maxHeartbeats 4000000
set_option maxRecDepth 100000

theorem findT_d (b : Nat) (id : Int) (X1 X2 X3 : HP) (x : Int × Bool) : Does Try.prog 41 [.agg #[.int .i64 x.1, .bool x.2], .pointer (some ⟨b, 0, none⟩)] [X1, row b 3 [.int .i64 id], X2, X3] (Ret (.bool (x.1 == id)) [X1, row b 3 [.int .i64 id], X2, X3]) := by
  rw [show (x.1 == id) = decide (x.1 = id) from rfl]
  (focus
    refine Xg.spec_of Go.Proofs.Try.func41 rfl Go.Proofs.Try.ntmps41 fun g F => ?_)
  (focus
    refine Xg.at_seq ?_
    refine Xg.at_region ?_
    refine Xg.ops_op (by kernel_rfl) (Xg.opx_box (v := (Value.agg #[iv x.fst, Value.bool x.snd])) [iv x.fst, Value.bool x.snd] (by kernel_rfl) (by kernel_rfl) fun xb1 => ?_)
    refine Xg.ops_op (by kernel_rfl) (Xg.opx_pure ((Value.bool false)) rfl (fun _ => by kernel_rfl) ?_)
    refine Xg.ops_nil ?_
    refine Xg.at_seq ?_
    refine Xg.at_region ?_
    refine Xg.ops_op (by kernel_rfl) (Xg.opx_pure ((pv xb1 0)) rfl (fun _ => by kernel_rfl) ?_)
    refine Xg.ops_op (by kernel_rfl) (Xg.opx_load (b := xb1) (off := ((0 : Nat))) 0 (iv x.fst) rfl (by kernel_rfl) (by kernel_rfl) (by kernel_rfl) ?_)
    refine Xg.ops_op (by kernel_rfl) (Xg.opx_load (b := b) (off := ((0 : Nat))) 2 (iv id) rfl (by kernel_rfl) (by kernel_rfl) (by kernel_rfl) ?_)
    refine Xg.ops_op (by kernel_rfl) (Xg.opx_pure (.bool (decide ((x.fst : Int) = id))) rfl (fun _ => by kernel_rfl) ?_)
    refine Xg.ops_op (by kernel_rfl) (Xg.opx_pure ((Value.bool (decide (x.fst = id)))) rfl (fun _ => by kernel_rfl) ?_)
    refine Xg.ops_nil ?_
    refine Xg.at_ret_ps (v := (Value.bool (decide (x.fst = id)))) [1, 2, 3, 4] [X1, row b (3 : TypeId) [iv id], X2, X3] Go.Proofs.Try.func41 (fun _ => by kernel_rfl) (by kernel_rfl) (by kernel_rfl) ?_
    exact ⟨by kernel_rfl, by kernel_rfl⟩)

/-- Where a number stands. -/
def at_ (id : Int) (r : List (Int × Bool)) : Int := fidx (fun x => x.1 == id) r

theorem find_d (p : Nat) (ra sa : Option Addr) (rc sn sc : Nat) (r : List (Int × Bool)) (S : HP) (id : Int) : Does Try.prog 30 [.pointer (some ⟨p, 0, none⟩), .int .i64 id] [RP ra rc r, HdP p ra r.length rc sa sn sc, S]
    (Ret (.int .i64 (at_ id r)) [RP ra rc r, HdP p ra r.length rc sa sn sc, S]) := by
  have hE : Go.Proofs.Enters Try.prog 41 := enters_of Try.func41 (by kernel_rfl) rfl
  have h := fun b => indexFunc_d 41 hE b (fun x => x.1 == id) (row b 3 [.int .i64 id]) (HdP p ra r.length rc sa sn sc) S ra rc r (fun x => findT_d b id _ _ _ x)
  unfold at_
  obtain ⟨n, hn⟩ : ∃ n, fidx (fun x : Int × Bool => x.1 == id) r = n := ⟨_, rfl⟩
  rw [hn] at h ⊢
  clear hE
  (focus
    refine Xg.spec_of Go.Proofs.Try.func30 rfl Go.Proofs.Try.ntmps30 fun g F => ?_)
  (focus
    refine Xg.at_seq ?_
    refine Xg.at_region ?_
    refine Xg.ops_op (by kernel_rfl) (Xg.opx_box (v := (iv id)) [(iv id)] (by kernel_rfl) (by kernel_rfl) fun xb1 => ?_)
    refine Xg.ops_op (by kernel_rfl) (Xg.opx_pure ((iv 0)) rfl (fun _ => by kernel_rfl) ?_)
    refine Xg.ops_nil ?_
    refine Xg.at_seq ?_
    refine Xg.at_region ?_
    refine Xg.ops_op (by kernel_rfl) (Xg.opx_pure ((pv p 0)) rfl (fun _ => by kernel_rfl) ?_)
    refine Xg.ops_op (by kernel_rfl) (Xg.opx_pure ((pv p 0)) rfl (fun _ => by kernel_rfl) ?_)
    refine Xg.ops_op (by kernel_rfl) (Xg.opx_pure ((pv p 0)) rfl (fun _ => by kernel_rfl) ?_)
    refine Xg.ops_op (by kernel_rfl) (Xg.opx_load (b := p) (off := ((0 : Nat))) 2 (Value.slice ra r.length rc) rfl (by kernel_rfl) (by kernel_rfl) (by kernel_rfl) ?_)
    refine Xg.ops_op (by kernel_rfl) (Xg.opx_pure ((Value.func (Fn.func (41 : Nat)) #[] #[pv xb1 0])) rfl (fun _ => by kernel_rfl) ?_)
    refine Xg.ops_op (by kernel_rfl) (Xg.opx_call1' [1, 0, 2, 3] [RP ra rc r, row xb1 (3 : TypeId) [iv id], HdP p ra r.length rc sa sn sc, S] (fun _ => by kernel_rfl) (@h (xb1)) (by kernel_rfl) (by kernel_rfl) (by kernel_rfl) ?_)
    refine Xg.ops_op (by kernel_rfl) (Xg.opx_pure ((iv n)) rfl (fun _ => by kernel_rfl) ?_)
    refine Xg.ops_nil ?_
    refine Xg.at_ret_ps (v := (iv n)) [0, 2, 3] [RP ra rc r, HdP p ra r.length rc sa sn sc, S] Go.Proofs.Try.func30 (fun _ => by kernel_rfl) (by kernel_rfl) (by kernel_rfl) ?_
    exact ⟨by kernel_rfl, by kernel_rfl⟩)

/-- Is it ready, and has it no turn? -/
def free (s : List Int) (x : Int × Bool) : Bool := x.2 && !decide (0 ≤ fidx (fun y => x.1 == y) s)

theorem beginT_d (b p : Nat) (H1 : HP) (ra sa : Option Addr) (rn rc sc : Nat) (s : List Int) (x : Int × Bool) : Does Try.prog 27 [.agg #[.int .i64 x.1, .bool x.2], .pointer (some ⟨b, 0, none⟩)]
    [H1, row b 29 [.pointer (some ⟨p, 0, none⟩)], HdP p ra rn rc sa s.length sc, SP sa sc s] (Ret (.bool (free s x)) [H1, row b 29 [.pointer (some ⟨p, 0, none⟩)], HdP p ra rn rc sa s.length sc, SP sa sc s]) := by
  have h := fun v => contains_d sa sc s v
  unfold free
  obtain ⟨x1, x2⟩ := x
  obtain ⟨t, ht⟩ : ∃ t, decide (0 ≤ fidx (fun y => x1 == y) s) = t := ⟨_, rfl⟩
  have h1 := h x1
  rw [ht] at h1
  dsimp only
  rw [ht]
  clear h ht
  cases x2
  · rw [Bool.false_and]
    (focus
      refine Xg.spec_of Go.Proofs.Try.func27 rfl Go.Proofs.Try.ntmps27 fun g F => ?_)
    (focus
      refine Xg.at_seq ?_
      refine Xg.at_region ?_
      refine Xg.ops_op (by kernel_rfl) (Xg.opx_box (v := (Value.agg #[iv x1, Value.bool false])) [iv x1, Value.bool false] (by kernel_rfl) (by kernel_rfl) fun xb1 => ?_)
      refine Xg.ops_op (by kernel_rfl) (Xg.opx_pure ((Value.bool false)) rfl (fun _ => by kernel_rfl) ?_)
      refine Xg.ops_nil ?_
      refine Xg.at_seq ?_
      refine Xg.at_draw [3, 6, 8, 9] [(1, [0, 1], Xg.CellIs (xb1) (((1 : Nat))) ((Value.bool false)))] (by kernel_rfl) ?_
      refine Xg.any_pure ((pv xb1 1)) 0 (by kernel_rfl) rfl (by kernel_rfl) (by kernel_rfl) (by kernel_rfl) (by kernel_rfl) rfl (fun _ => by kernel_rfl) ?_
      refine Xg.any_reads (Value.bool false) 1 0 (by kernel_rfl) rfl (by kernel_rfl) (by kernel_rfl) (by kernel_rfl) (by kernel_rfl) rfl rfl (by kernel_rfl) (Xg.cell_now (b := xb1) (off := ((1 : Nat))) 0 rfl (by kernel_rfl)) (fun _ h => Xg.run_load (by kernel_rfl) (by kernel_rfl) h) ?_
      refine Xg.any_pure ((Value.bool false)) 2 (by kernel_rfl) rfl (by kernel_rfl) (by kernel_rfl) (by kernel_rfl) (by kernel_rfl) rfl (fun _ => by kernel_rfl) ?_
      refine Xg.any_skip 7 (by kernel_rfl) rfl (by kernel_rfl) (by kernel_rfl) (by kernel_rfl) (by kernel_rfl) ?_
      refine Xg.any_each [3, 8] (by kernel_rfl) rfl ⟨?_, ?_, trivial⟩
      refine Xg.comes_skip rfl (by kernel_rfl) (by kernel_rfl) ?_
      refine Xg.acts (Xg.owes_skip (by kernel_rfl) Xg.owes_nil) ?_
      rotate_left
      refine Xg.comes_skip rfl (by kernel_rfl) (by kernel_rfl) ?_
      refine Xg.acts (Xg.owes_skip (by kernel_rfl) Xg.owes_nil) ?_
      rotate_left
      refine Xg.any_skip 4 (by kernel_rfl) rfl (by kernel_rfl) (by kernel_rfl) (by kernel_rfl) (by kernel_rfl) ?_
      refine Xg.any_skip 5 (by kernel_rfl) rfl (by kernel_rfl) (by kernel_rfl) (by kernel_rfl) (by kernel_rfl) ?_
      refine Xg.any_each [6, 8] (by kernel_rfl) rfl ⟨?_, ?_, trivial⟩
      refine Xg.comes_skip rfl (by kernel_rfl) (by kernel_rfl) ?_
      refine Xg.acts (Xg.owes_skip (by kernel_rfl) Xg.owes_nil) ?_
      rotate_left
      refine Xg.comes_skip rfl (by kernel_rfl) (by kernel_rfl) ?_
      refine Xg.acts (Xg.owes_skip (by kernel_rfl) Xg.owes_nil) ?_
      rotate_left
      refine Xg.any_each [3] (by kernel_rfl) rfl ⟨?_, trivial⟩
      refine Xg.comes_skip rfl (by kernel_rfl) (by kernel_rfl) ?_
      refine Xg.acts (Xg.owes_skip (by kernel_rfl) Xg.owes_nil) ?_
      refine Xg.any_skip 4 (by kernel_rfl) rfl (by kernel_rfl) (by kernel_rfl) (by kernel_rfl) (by kernel_rfl) ?_
      refine Xg.any_skip 5 (by kernel_rfl) rfl (by kernel_rfl) (by kernel_rfl) (by kernel_rfl) (by kernel_rfl) ?_
      refine Xg.any_each [6] (by kernel_rfl) rfl ⟨?_, trivial⟩
      refine Xg.comes_skip rfl (by kernel_rfl) (by kernel_rfl) ?_
      refine Xg.acts (Xg.owes_skip (by kernel_rfl) Xg.owes_nil) ?_
      refine Xg.any_each [9] (by kernel_rfl) rfl ⟨?_, trivial⟩
      refine Xg.comes_skip rfl (by kernel_rfl) (by kernel_rfl) ?_
      refine Xg.acts (Xg.owes_skip (by kernel_rfl) Xg.owes_nil) ?_
      refine Xg.any_skip 10 (by kernel_rfl) rfl (by kernel_rfl) (by kernel_rfl) (by kernel_rfl) (by kernel_rfl) ?_
      refine Xg.any_pure ((Value.bool false)) 11 (by kernel_rfl) rfl (by kernel_rfl) (by kernel_rfl) (by kernel_rfl) (by kernel_rfl) rfl (fun _ => by kernel_rfl) ?_
      refine Xg.any_pure ((Value.bool false)) 12 (by kernel_rfl) rfl (by kernel_rfl) (by kernel_rfl) (by kernel_rfl) (by kernel_rfl) rfl (fun _ => by kernel_rfl) ?_
      refine Xg.any_nil (by kernel_rfl) ?_
      refine Xg.at_ret_ps (v := (Value.bool false)) [1, 2, 3, 4] [H1, row b (29 : TypeId) [pv p 0], HdP p ra rn rc sa s.length sc, SP sa sc s] Go.Proofs.Try.func27 (fun _ => by kernel_rfl) (by kernel_rfl) (by kernel_rfl) ?_
      exact ⟨by kernel_rfl, by kernel_rfl⟩
      refine Xg.any_each [8] (by kernel_rfl) rfl ⟨?_, trivial⟩
      refine Xg.comes_skip rfl (by kernel_rfl) (by kernel_rfl) ?_
      refine Xg.acts (Xg.owes_skip (by kernel_rfl) Xg.owes_nil) ?_
      refine Xg.any_each [9] (by kernel_rfl) rfl ⟨?_, trivial⟩
      refine Xg.comes_skip rfl (by kernel_rfl) (by kernel_rfl) ?_
      refine Xg.acts (Xg.owes_skip (by kernel_rfl) Xg.owes_nil) ?_
      refine Xg.any_skip 10 (by kernel_rfl) rfl (by kernel_rfl) (by kernel_rfl) (by kernel_rfl) (by kernel_rfl) ?_
      refine Xg.any_pure ((Value.bool false)) 11 (by kernel_rfl) rfl (by kernel_rfl) (by kernel_rfl) (by kernel_rfl) (by kernel_rfl) rfl (fun _ => by kernel_rfl) ?_
      refine Xg.any_pure ((Value.bool false)) 12 (by kernel_rfl) rfl (by kernel_rfl) (by kernel_rfl) (by kernel_rfl) (by kernel_rfl) rfl (fun _ => by kernel_rfl) ?_
      refine Xg.any_nil (by kernel_rfl) ?_
      refine Xg.at_ret_ps (v := (Value.bool false)) [1, 2, 3, 4] [H1, row b (29 : TypeId) [pv p 0], HdP p ra rn rc sa s.length sc, SP sa sc s] Go.Proofs.Try.func27 (fun _ => by kernel_rfl) (by kernel_rfl) (by kernel_rfl) ?_
      exact ⟨by kernel_rfl, by kernel_rfl⟩
      refine Xg.any_each [6] (by kernel_rfl) rfl ⟨?_, trivial⟩
      refine Xg.comes_skip rfl (by kernel_rfl) (by kernel_rfl) ?_
      refine Xg.acts (Xg.owes_skip (by kernel_rfl) Xg.owes_nil) ?_
      refine Xg.any_each [9] (by kernel_rfl) rfl ⟨?_, trivial⟩
      refine Xg.comes_skip rfl (by kernel_rfl) (by kernel_rfl) ?_
      refine Xg.acts (Xg.owes_skip (by kernel_rfl) Xg.owes_nil) ?_
      refine Xg.any_skip 10 (by kernel_rfl) rfl (by kernel_rfl) (by kernel_rfl) (by kernel_rfl) (by kernel_rfl) ?_
      refine Xg.any_pure ((Value.bool false)) 11 (by kernel_rfl) rfl (by kernel_rfl) (by kernel_rfl) (by kernel_rfl) (by kernel_rfl) rfl (fun _ => by kernel_rfl) ?_
      refine Xg.any_pure ((Value.bool false)) 12 (by kernel_rfl) rfl (by kernel_rfl) (by kernel_rfl) (by kernel_rfl) (by kernel_rfl) rfl (fun _ => by kernel_rfl) ?_
      refine Xg.any_nil (by kernel_rfl) ?_
      refine Xg.at_ret_ps (v := (Value.bool false)) [1, 2, 3, 4] [H1, row b (29 : TypeId) [pv p 0], HdP p ra rn rc sa s.length sc, SP sa sc s] Go.Proofs.Try.func27 (fun _ => by kernel_rfl) (by kernel_rfl) (by kernel_rfl) ?_
      exact ⟨by kernel_rfl, by kernel_rfl⟩)
  · rw [Bool.true_and]
    cases t
    · rw [Bool.not_false]
      (focus
        refine Xg.spec_of Go.Proofs.Try.func27 rfl Go.Proofs.Try.ntmps27 fun g F => ?_)
      (focus
        refine Xg.at_seq ?_
        refine Xg.at_region ?_
        refine Xg.ops_op (by kernel_rfl) (Xg.opx_box (v := (Value.agg #[iv x1, Value.bool true])) [iv x1, Value.bool true] (by kernel_rfl) (by kernel_rfl) fun xb1 => ?_)
        refine Xg.ops_op (by kernel_rfl) (Xg.opx_pure ((Value.bool false)) rfl (fun _ => by kernel_rfl) ?_)
        refine Xg.ops_nil ?_
        refine Xg.at_seq ?_
        refine Xg.at_draw [9] [(1, [0, 1], Xg.CellIs (xb1) (((1 : Nat))) ((Value.bool true))), (3, [0, 1, 2, 3, 7, 8], Xg.CellIs (b) (((0 : Nat))) ((pv p 0))), (6, [0, 1, 2, 3, 4, 5, 6, 7, 8], Xg.CellIs (p) (((1 : Nat))) ((Value.slice sa s.length sc))), (8, [0, 1, 2, 3, 4, 5, 6, 7, 8], Xg.CellIs (xb1) (((0 : Nat))) ((iv x1)))] (by kernel_rfl) ?_
        refine Xg.any_pure ((pv xb1 1)) 0 (by kernel_rfl) rfl (by kernel_rfl) (by kernel_rfl) (by kernel_rfl) (by kernel_rfl) rfl (fun _ => by kernel_rfl) ?_
        refine Xg.any_reads (Value.bool true) 1 0 (by kernel_rfl) rfl (by kernel_rfl) (by kernel_rfl) (by kernel_rfl) (by kernel_rfl) rfl rfl (by kernel_rfl) (Xg.cell_now (b := xb1) (off := ((1 : Nat))) 0 rfl (by kernel_rfl)) (fun _ h => Xg.run_load (by kernel_rfl) (by kernel_rfl) h) ?_
        refine Xg.any_pure ((Value.bool true)) 2 (by kernel_rfl) rfl (by kernel_rfl) (by kernel_rfl) (by kernel_rfl) (by kernel_rfl) rfl (fun _ => by kernel_rfl) ?_
        refine Xg.any_reads (pv p 0) 3 1 (by kernel_rfl) rfl (by kernel_rfl) (by kernel_rfl) (by kernel_rfl) (by kernel_rfl) rfl rfl (by kernel_rfl) (Xg.cell_now (b := b) (off := ((0 : Nat))) 2 rfl (by kernel_rfl)) (fun _ h => Xg.run_load (by kernel_rfl) (by kernel_rfl) h) ?_
        refine Xg.any_pure ((pv p 0)) 4 (by kernel_rfl) rfl (by kernel_rfl) (by kernel_rfl) (by kernel_rfl) (by kernel_rfl) rfl (fun _ => by kernel_rfl) ?_
        refine Xg.any_pure ((pv p 1)) 5 (by kernel_rfl) rfl (by kernel_rfl) (by kernel_rfl) (by kernel_rfl) (by kernel_rfl) rfl (fun _ => by kernel_rfl) ?_
        refine Xg.any_reads (Value.slice sa s.length sc) 6 2 (by kernel_rfl) rfl (by kernel_rfl) (by kernel_rfl) (by kernel_rfl) (by kernel_rfl) rfl rfl (by kernel_rfl) (Xg.cell_now (b := p) (off := ((1 : Nat))) 3 rfl (by kernel_rfl)) (fun _ h => Xg.run_load (by kernel_rfl) (by kernel_rfl) h) ?_
        refine Xg.any_pure ((pv xb1 0)) 7 (by kernel_rfl) rfl (by kernel_rfl) (by kernel_rfl) (by kernel_rfl) (by kernel_rfl) rfl (fun _ => by kernel_rfl) ?_
        refine Xg.any_reads (iv x1) 8 3 (by kernel_rfl) rfl (by kernel_rfl) (by kernel_rfl) (by kernel_rfl) (by kernel_rfl) rfl rfl (by kernel_rfl) (Xg.cell_now (b := xb1) (off := ((0 : Nat))) 0 rfl (by kernel_rfl)) (fun _ h => Xg.run_load (by kernel_rfl) (by kernel_rfl) h) ?_
        refine Xg.any_each [9] (by kernel_rfl) rfl ⟨?_, trivial⟩
        refine Xg.comes_act rfl (by kernel_rfl) (by kernel_rfl) (Xg.opx_call1' [4] [ints (3 : TypeId) IntKind.i64 sa sc s, row xb1 (65 : Nat) [iv x1, Value.bool true], H1, row b (29 : TypeId) [pv p 0], HdP p ra rn rc sa s.length sc] (fun _ => by kernel_rfl) (@h1 ) (by kernel_rfl) (by kernel_rfl) (by kernel_rfl) ?_)
        refine Xg.acts (Xg.owes_skip (by kernel_rfl) (Xg.owes_skip (by kernel_rfl) (Xg.owes_skip (by kernel_rfl) (Xg.owes_skip (by kernel_rfl) Xg.owes_nil)))) ?_
        refine Xg.any_pure (.bool true) 10 (by kernel_rfl) rfl (by kernel_rfl) (by kernel_rfl) (by kernel_rfl) (by kernel_rfl) rfl (fun _ => by kernel_rfl) ?_
        refine Xg.any_pure ((Value.bool true)) 11 (by kernel_rfl) rfl (by kernel_rfl) (by kernel_rfl) (by kernel_rfl) (by kernel_rfl) rfl (fun _ => by kernel_rfl) ?_
        refine Xg.any_pure ((Value.bool true)) 12 (by kernel_rfl) rfl (by kernel_rfl) (by kernel_rfl) (by kernel_rfl) (by kernel_rfl) rfl (fun _ => by kernel_rfl) ?_
        refine Xg.any_nil (by kernel_rfl) ?_
        refine Xg.at_ret_ps (v := (Value.bool true)) [2, 3, 4, 0] [H1, row b (29 : TypeId) [pv p 0], HdP p ra rn rc sa s.length sc, ints (3 : TypeId) IntKind.i64 sa sc s] Go.Proofs.Try.func27 (fun _ => by kernel_rfl) (by kernel_rfl) (by kernel_rfl) ?_
        exact ⟨by kernel_rfl, by kernel_rfl⟩)
    · rw [Bool.not_true]
      (focus
        refine Xg.spec_of Go.Proofs.Try.func27 rfl Go.Proofs.Try.ntmps27 fun g F => ?_)
      (focus
        refine Xg.at_seq ?_
        refine Xg.at_region ?_
        refine Xg.ops_op (by kernel_rfl) (Xg.opx_box (v := (Value.agg #[iv x1, Value.bool true])) [iv x1, Value.bool true] (by kernel_rfl) (by kernel_rfl) fun xb1 => ?_)
        refine Xg.ops_op (by kernel_rfl) (Xg.opx_pure ((Value.bool false)) rfl (fun _ => by kernel_rfl) ?_)
        refine Xg.ops_nil ?_
        refine Xg.at_seq ?_
        refine Xg.at_draw [9] [(1, [0, 1], Xg.CellIs (xb1) (((1 : Nat))) ((Value.bool true))), (3, [0, 1, 2, 3, 7, 8], Xg.CellIs (b) (((0 : Nat))) ((pv p 0))), (6, [0, 1, 2, 3, 4, 5, 6, 7, 8], Xg.CellIs (p) (((1 : Nat))) ((Value.slice sa s.length sc))), (8, [0, 1, 2, 3, 4, 5, 6, 7, 8], Xg.CellIs (xb1) (((0 : Nat))) ((iv x1)))] (by kernel_rfl) ?_
        refine Xg.any_pure ((pv xb1 1)) 0 (by kernel_rfl) rfl (by kernel_rfl) (by kernel_rfl) (by kernel_rfl) (by kernel_rfl) rfl (fun _ => by kernel_rfl) ?_
        refine Xg.any_reads (Value.bool true) 1 0 (by kernel_rfl) rfl (by kernel_rfl) (by kernel_rfl) (by kernel_rfl) (by kernel_rfl) rfl rfl (by kernel_rfl) (Xg.cell_now (b := xb1) (off := ((1 : Nat))) 0 rfl (by kernel_rfl)) (fun _ h => Xg.run_load (by kernel_rfl) (by kernel_rfl) h) ?_
        refine Xg.any_pure ((Value.bool true)) 2 (by kernel_rfl) rfl (by kernel_rfl) (by kernel_rfl) (by kernel_rfl) (by kernel_rfl) rfl (fun _ => by kernel_rfl) ?_
        refine Xg.any_reads (pv p 0) 3 1 (by kernel_rfl) rfl (by kernel_rfl) (by kernel_rfl) (by kernel_rfl) (by kernel_rfl) rfl rfl (by kernel_rfl) (Xg.cell_now (b := b) (off := ((0 : Nat))) 2 rfl (by kernel_rfl)) (fun _ h => Xg.run_load (by kernel_rfl) (by kernel_rfl) h) ?_
        refine Xg.any_pure ((pv p 0)) 4 (by kernel_rfl) rfl (by kernel_rfl) (by kernel_rfl) (by kernel_rfl) (by kernel_rfl) rfl (fun _ => by kernel_rfl) ?_
        refine Xg.any_pure ((pv p 1)) 5 (by kernel_rfl) rfl (by kernel_rfl) (by kernel_rfl) (by kernel_rfl) (by kernel_rfl) rfl (fun _ => by kernel_rfl) ?_
        refine Xg.any_reads (Value.slice sa s.length sc) 6 2 (by kernel_rfl) rfl (by kernel_rfl) (by kernel_rfl) (by kernel_rfl) (by kernel_rfl) rfl rfl (by kernel_rfl) (Xg.cell_now (b := p) (off := ((1 : Nat))) 3 rfl (by kernel_rfl)) (fun _ h => Xg.run_load (by kernel_rfl) (by kernel_rfl) h) ?_
        refine Xg.any_pure ((pv xb1 0)) 7 (by kernel_rfl) rfl (by kernel_rfl) (by kernel_rfl) (by kernel_rfl) (by kernel_rfl) rfl (fun _ => by kernel_rfl) ?_
        refine Xg.any_reads (iv x1) 8 3 (by kernel_rfl) rfl (by kernel_rfl) (by kernel_rfl) (by kernel_rfl) (by kernel_rfl) rfl rfl (by kernel_rfl) (Xg.cell_now (b := xb1) (off := ((0 : Nat))) 0 rfl (by kernel_rfl)) (fun _ h => Xg.run_load (by kernel_rfl) (by kernel_rfl) h) ?_
        refine Xg.any_each [9] (by kernel_rfl) rfl ⟨?_, trivial⟩
        refine Xg.comes_act rfl (by kernel_rfl) (by kernel_rfl) (Xg.opx_call1' [4] [ints (3 : TypeId) IntKind.i64 sa sc s, row xb1 (65 : Nat) [iv x1, Value.bool true], H1, row b (29 : TypeId) [pv p 0], HdP p ra rn rc sa s.length sc] (fun _ => by kernel_rfl) (@h1 ) (by kernel_rfl) (by kernel_rfl) (by kernel_rfl) ?_)
        refine Xg.acts (Xg.owes_skip (by kernel_rfl) (Xg.owes_skip (by kernel_rfl) (Xg.owes_skip (by kernel_rfl) (Xg.owes_skip (by kernel_rfl) Xg.owes_nil)))) ?_
        refine Xg.any_pure (.bool false) 10 (by kernel_rfl) rfl (by kernel_rfl) (by kernel_rfl) (by kernel_rfl) (by kernel_rfl) rfl (fun _ => by kernel_rfl) ?_
        refine Xg.any_pure ((Value.bool false)) 11 (by kernel_rfl) rfl (by kernel_rfl) (by kernel_rfl) (by kernel_rfl) (by kernel_rfl) rfl (fun _ => by kernel_rfl) ?_
        refine Xg.any_pure ((Value.bool false)) 12 (by kernel_rfl) rfl (by kernel_rfl) (by kernel_rfl) (by kernel_rfl) (by kernel_rfl) rfl (fun _ => by kernel_rfl) ?_
        refine Xg.any_nil (by kernel_rfl) ?_
        refine Xg.at_ret_ps (v := (Value.bool false)) [2, 3, 4, 0] [H1, row b (29 : TypeId) [pv p 0], HdP p ra rn rc sa s.length sc, ints (3 : TypeId) IntKind.i64 sa sc s] Go.Proofs.Try.func27 (fun _ => by kernel_rfl) (by kernel_rfl) (by kernel_rfl) ?_
        exact ⟨by kernel_rfl, by kernel_rfl⟩)
end Go.Proofs.Ytijjficnhpokdaa
