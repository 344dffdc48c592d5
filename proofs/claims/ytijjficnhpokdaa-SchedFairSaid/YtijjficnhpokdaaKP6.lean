/- The sched package: what is asked of a Sched. -/
import Derived.Test.YtijjficnhpokdaaKP5
import Derived.Test.YtijjficnhpokdaaKS
namespace Go.Proofs.Ytijjficnhpokdaa
open Go.Sl Go.Xg
set_option linter.unusedVariables false
set_option linter.unusedSimpArgs false
set_option maxHeartbeats 4000000
set_option maxRecDepth 100000

/-- A Sched: its round, its slots. -/
def SchedP (p : Nat) (r : List (Int × Bool)) (s : List Int) : HP := fun m => ∃ (ra : Option Addr) (rc : Nat) (sa : Option Addr) (sc : Nat), seps [HdP p ra r.length rc sa s.length sc, RP ra rc r, SP sa sc s] m

theorem sched_open {p : Nat} {r : List (Int × Bool)} {s : List Int} {g w : World} {L : List HP} (h : SL g (SchedP p r s :: L) w) : ∃ ra rc sa sc, SL g (HdP p ra r.length rc sa s.length sc :: RP ra rc r :: SP sa sc s :: L) w := by
  obtain ⟨ra, h⟩ := SL.ex.1 h
  obtain ⟨rc, h⟩ := SL.ex.1 h
  obtain ⟨sa, h⟩ := SL.ex.1 h
  obtain ⟨sc, h⟩ := SL.ex.1 h
  exact ⟨ra, rc, sa, sc, SL.flat.1 h⟩
theorem sched_shut {p : Nat} {r : List (Int × Bool)} {s : List Int} {g w : World} {L : List HP} {ra rc sa sc} (h : SL g (HdP p ra r.length rc sa s.length sc :: RP ra rc r :: SP sa sc s :: L) w) : SL g (SchedP p r s :: L) w :=
  SL.ex.2 ⟨ra, SL.ex.2 ⟨rc, SL.ex.2 ⟨sa, SL.ex.2 ⟨sc, SL.flat.2 h⟩⟩⟩⟩
theorem closed {f : FuncId} {args : List Value} {V : Value} {p : Nat} {r r' : List (Int × Bool)} {s s' : List Int}
    (h : ∀ ra rc sa sc, Does Try.prog f args [HdP p ra r.length rc sa s.length sc, RP ra rc r, SP sa sc s] (RetE (fun x : Option Addr × Nat => True) (fun _ => V) (fun x => [HdP p x.1 r'.length x.2 sa s'.length sc, RP x.1 x.2 r', SP sa sc s']))) :
    Does Try.prog f args [SchedP p r s] (Ret V [SchedP p r' s']) := by
  constructor
  intro g F w hS
  obtain ⟨ra, rc, sa, sc, hS⟩ := sched_open hS
  intro cs
  obtain ⟨e, w', fr, ⟨v, ps, ⟨x, _, rfl, rfl⟩, rfl, h2⟩, h3⟩ := (h ra rc sa sc).run g F w hS cs
  exact ⟨_, w', fr, ⟨_, _, ⟨rfl, rfl⟩, rfl, sched_shut h2⟩, h3⟩

def addE (id : Int) (r : List (Int × Bool)) : Int := if id < 0 then 1 else if 0 ≤ at_ id r then 132 else if r.length = 64 then 133 else 0
def addR (id : Int) (r : List (Int × Bool)) : List (Int × Bool) := if addE id r = 0 then r ++ [(id, false)] else r

theorem add_d (p : Nat) (r : List (Int × Bool)) (s : List Int) (id : Int) (h64 : r.length ≤ 64) : Does Try.prog 22 [.pointer (some ⟨p, 0, none⟩), .int .i64 id] [SchedP p r s] (Ret (.int .i64 (addE id r)) [SchedP p (addR id r) s]) := by
  refine closed fun ra rc sa sc => ?_
  have hf := find_d p ra sa rc s.length sc r (SP sa sc s) id
  unfold addR addE
  obtain ⟨n, hn⟩ : ∃ n, at_ id r = n := ⟨_, rfl⟩
  rw [hn] at hf ⊢
  by_cases c1 : id < 0
  · simp only [if_pos c1]
    rw [if_neg (by decide)]
    (focus
      refine Xg.spec_of Go.Proofs.Try.func22 rfl Go.Proofs.Try.ntmps22 fun g F => ?_)
    (focus
      refine Xg.at_seq ?_
      refine Xg.at_region ?_
      refine Xg.ops_op (by kernel_rfl) (Xg.opx_pure ((iv 0)) rfl (fun _ => by kernel_rfl) ?_)
      refine Xg.ops_nil ?_
      refine Xg.at_seq ?_
      refine Xg.at_block ?_
      refine Xg.at_seq ?_
      refine Xg.at_region ?_
      refine Xg.ops_op (by kernel_rfl) (Xg.opx_pure ((iv id)) rfl (fun _ => by kernel_rfl) ?_)
      refine Xg.ops_op (by kernel_rfl) (Xg.opx_pure (.bool (decide ((id : Int) < ((0 : Int))))) rfl (fun _ => by kernel_rfl) ?_)
      refine Xg.ops_op (by kernel_rfl) (Xg.opx_pure ((Value.bool (decide (id < (0 : Int))))) rfl (fun _ => by kernel_rfl) ?_)
      refine Xg.ops_nil ?_
      refine Xg.at_true (t := decide ((id < (0 : Int)))) (by kernel_rfl) (decide_eq_true (by omega)) ?_
      refine Xg.at_seq ?_
      refine Xg.at_region ?_
      refine Xg.ops_op (by kernel_rfl) (Xg.opx_pure ((iv 1)) rfl (fun _ => by kernel_rfl) ?_)
      refine Xg.ops_nil ?_
      refine Xg.at_ret_ps (v := (iv 1)) [0, 1, 2] [HdP p ra r.length rc sa s.length sc, RP ra rc r, SP sa sc s] Go.Proofs.Try.func22 (fun _ => by kernel_rfl) (by kernel_rfl) (by kernel_rfl) ?_
      refine ⟨((ra, rc)), trivial, by kernel_rfl, by kernel_rfl⟩)
  by_cases c2 : 0 ≤ n
  · simp only [if_neg c1, if_pos c2]
    rw [if_neg (by decide)]
    (focus
      refine Xg.spec_of Go.Proofs.Try.func22 rfl Go.Proofs.Try.ntmps22 fun g F => ?_)
    (focus
      refine Xg.at_seq ?_
      refine Xg.at_region ?_
      refine Xg.ops_op (by kernel_rfl) (Xg.opx_pure ((iv 0)) rfl (fun _ => by kernel_rfl) ?_)
      refine Xg.ops_nil ?_
      refine Xg.at_seq ?_
      refine Xg.at_block ?_
      refine Xg.at_seq ?_
      refine Xg.at_region ?_
      refine Xg.ops_op (by kernel_rfl) (Xg.opx_pure ((iv id)) rfl (fun _ => by kernel_rfl) ?_)
      refine Xg.ops_op (by kernel_rfl) (Xg.opx_pure (.bool (decide ((id : Int) < ((0 : Int))))) rfl (fun _ => by kernel_rfl) ?_)
      refine Xg.ops_op (by kernel_rfl) (Xg.opx_pure ((Value.bool (decide (id < (0 : Int))))) rfl (fun _ => by kernel_rfl) ?_)
      refine Xg.ops_nil ?_
      refine Xg.at_false (t := decide ((id < (0 : Int)))) (by kernel_rfl) (decide_eq_false (by omega)) ?_
      refine Xg.at_seq ?_
      refine Xg.at_region ?_
      refine Xg.ops_op (by kernel_rfl) (Xg.opx_pure ((pv p 0)) rfl (fun _ => by kernel_rfl) ?_)
      refine Xg.ops_op (by kernel_rfl) (Xg.opx_pure ((iv id)) rfl (fun _ => by kernel_rfl) ?_)
      refine Xg.ops_op (by kernel_rfl) (Xg.opx_call1' [1, 0, 2] [RP ra rc r, HdP p ra r.length rc sa s.length sc, SP sa sc s] (fun _ => by kernel_rfl) (@hf ) (by kernel_rfl) (by kernel_rfl) (by kernel_rfl) ?_)
      refine Xg.ops_op (by kernel_rfl) (Xg.opx_pure (.bool (decide ((n : Int) ≥ ((0 : Int))))) rfl (fun _ => by kernel_rfl) ?_)
      refine Xg.ops_op (by kernel_rfl) (Xg.opx_pure ((Value.bool (decide (n ≥ (0 : Int))))) rfl (fun _ => by kernel_rfl) ?_)
      refine Xg.ops_nil ?_
      refine Xg.at_true (t := decide ((n ≥ (0 : Int)))) (by kernel_rfl) (decide_eq_true (by omega)) ?_
      refine Xg.at_seq ?_
      refine Xg.at_region ?_
      refine Xg.ops_op (by kernel_rfl) (Xg.opx_pure ((iv 132)) rfl (fun _ => by kernel_rfl) ?_)
      refine Xg.ops_nil ?_
      refine Xg.at_ret_ps (v := (iv 132)) [1, 0, 2] [HdP p ra r.length rc sa s.length sc, RP ra rc r, SP sa sc s] Go.Proofs.Try.func22 (fun _ => by kernel_rfl) (by kernel_rfl) (by kernel_rfl) ?_
      refine ⟨((ra, rc)), trivial, by kernel_rfl, by kernel_rfl⟩)
  by_cases c3 : r.length = 64
  · simp only [if_neg c1, if_neg c2, if_pos c3]
    rw [if_neg (by decide)]
    (focus
      refine Xg.spec_of Go.Proofs.Try.func22 rfl Go.Proofs.Try.ntmps22 fun g F => ?_)
    (focus
      refine Xg.at_seq ?_
      refine Xg.at_region ?_
      refine Xg.ops_op (by kernel_rfl) (Xg.opx_pure ((iv 0)) rfl (fun _ => by kernel_rfl) ?_)
      refine Xg.ops_nil ?_
      refine Xg.at_seq ?_
      refine Xg.at_block ?_
      refine Xg.at_seq ?_
      refine Xg.at_region ?_
      refine Xg.ops_op (by kernel_rfl) (Xg.opx_pure ((iv id)) rfl (fun _ => by kernel_rfl) ?_)
      refine Xg.ops_op (by kernel_rfl) (Xg.opx_pure (.bool (decide ((id : Int) < ((0 : Int))))) rfl (fun _ => by kernel_rfl) ?_)
      refine Xg.ops_op (by kernel_rfl) (Xg.opx_pure ((Value.bool (decide (id < (0 : Int))))) rfl (fun _ => by kernel_rfl) ?_)
      refine Xg.ops_nil ?_
      refine Xg.at_false (t := decide ((id < (0 : Int)))) (by kernel_rfl) (decide_eq_false (by omega)) ?_
      refine Xg.at_seq ?_
      refine Xg.at_region ?_
      refine Xg.ops_op (by kernel_rfl) (Xg.opx_pure ((pv p 0)) rfl (fun _ => by kernel_rfl) ?_)
      refine Xg.ops_op (by kernel_rfl) (Xg.opx_pure ((iv id)) rfl (fun _ => by kernel_rfl) ?_)
      refine Xg.ops_op (by kernel_rfl) (Xg.opx_call1' [1, 0, 2] [RP ra rc r, HdP p ra r.length rc sa s.length sc, SP sa sc s] (fun _ => by kernel_rfl) (@hf ) (by kernel_rfl) (by kernel_rfl) (by kernel_rfl) ?_)
      refine Xg.ops_op (by kernel_rfl) (Xg.opx_pure (.bool (decide ((n : Int) ≥ ((0 : Int))))) rfl (fun _ => by kernel_rfl) ?_)
      refine Xg.ops_op (by kernel_rfl) (Xg.opx_pure ((Value.bool (decide (n ≥ (0 : Int))))) rfl (fun _ => by kernel_rfl) ?_)
      refine Xg.ops_nil ?_
      refine Xg.at_false (t := decide ((n ≥ (0 : Int)))) (by kernel_rfl) (decide_eq_false (by omega)) ?_
      refine Xg.at_seq ?_
      refine Xg.at_region ?_
      refine Xg.ops_op (by kernel_rfl) (Xg.opx_pure ((pv p 0)) rfl (fun _ => by kernel_rfl) ?_)
      refine Xg.ops_op (by kernel_rfl) (Xg.opx_pure ((pv p 0)) rfl (fun _ => by kernel_rfl) ?_)
      refine Xg.ops_op (by kernel_rfl) (Xg.opx_pure ((pv p 0)) rfl (fun _ => by kernel_rfl) ?_)
      refine Xg.ops_op (by kernel_rfl) (Xg.opx_load (b := p) (off := ((0 : Nat))) 1 (Value.slice ra r.length rc) rfl (by kernel_rfl) (by kernel_rfl) (by kernel_rfl) ?_)
      refine Xg.ops_op (by kernel_rfl) (Xg.opx_pure ((iv (↑r.length : Int))) rfl (fun _ => by kernel_rfl) ?_)
      refine Xg.ops_op (by kernel_rfl) (Xg.opx_pure (.bool (decide ((((↑r.length : Int)) : Int) = ((64 : Int))))) rfl (fun _ => by kernel_rfl) ?_)
      refine Xg.ops_op (by kernel_rfl) (Xg.opx_pure ((Value.bool (decide ((↑r.length : Int) = (64 : Int))))) rfl (fun _ => by kernel_rfl) ?_)
      refine Xg.ops_nil ?_
      refine Xg.at_true (t := decide (((↑r.length : Int) = (64 : Int)))) (by kernel_rfl) (decide_eq_true (by omega)) ?_
      refine Xg.at_seq ?_
      refine Xg.at_region ?_
      refine Xg.ops_op (by kernel_rfl) (Xg.opx_pure ((iv 133)) rfl (fun _ => by kernel_rfl) ?_)
      refine Xg.ops_nil ?_
      refine Xg.at_ret_ps (v := (iv 133)) [1, 0, 2] [HdP p ra r.length rc sa s.length sc, RP ra rc r, SP sa sc s] Go.Proofs.Try.func22 (fun _ => by kernel_rfl) (by kernel_rfl) (by kernel_rfl) ?_
      refine ⟨((ra, rc)), trivial, by kernel_rfl, by kernel_rfl⟩)
  · simp only [if_neg c1, if_neg c2, if_neg c3, if_true]
    (focus
      refine Xg.spec_of Go.Proofs.Try.func22 rfl Go.Proofs.Try.ntmps22 fun g F => ?_)
    (focus
      refine Xg.at_seq ?_
      refine Xg.at_region ?_
      refine Xg.ops_op (by kernel_rfl) (Xg.opx_pure ((iv 0)) rfl (fun _ => by kernel_rfl) ?_)
      refine Xg.ops_nil ?_
      refine Xg.at_seq ?_
      refine Xg.at_block ?_
      refine Xg.at_seq ?_
      refine Xg.at_region ?_
      refine Xg.ops_op (by kernel_rfl) (Xg.opx_pure ((iv id)) rfl (fun _ => by kernel_rfl) ?_)
      refine Xg.ops_op (by kernel_rfl) (Xg.opx_pure (.bool (decide ((id : Int) < ((0 : Int))))) rfl (fun _ => by kernel_rfl) ?_)
      refine Xg.ops_op (by kernel_rfl) (Xg.opx_pure ((Value.bool (decide (id < (0 : Int))))) rfl (fun _ => by kernel_rfl) ?_)
      refine Xg.ops_nil ?_
      refine Xg.at_false (t := decide ((id < (0 : Int)))) (by kernel_rfl) (decide_eq_false (by omega)) ?_
      refine Xg.at_seq ?_
      refine Xg.at_region ?_
      refine Xg.ops_op (by kernel_rfl) (Xg.opx_pure ((pv p 0)) rfl (fun _ => by kernel_rfl) ?_)
      refine Xg.ops_op (by kernel_rfl) (Xg.opx_pure ((iv id)) rfl (fun _ => by kernel_rfl) ?_)
      refine Xg.ops_op (by kernel_rfl) (Xg.opx_call1' [1, 0, 2] [RP ra rc r, HdP p ra r.length rc sa s.length sc, SP sa sc s] (fun _ => by kernel_rfl) (@hf ) (by kernel_rfl) (by kernel_rfl) (by kernel_rfl) ?_)
      refine Xg.ops_op (by kernel_rfl) (Xg.opx_pure (.bool (decide ((n : Int) ≥ ((0 : Int))))) rfl (fun _ => by kernel_rfl) ?_)
      refine Xg.ops_op (by kernel_rfl) (Xg.opx_pure ((Value.bool (decide (n ≥ (0 : Int))))) rfl (fun _ => by kernel_rfl) ?_)
      refine Xg.ops_nil ?_
      refine Xg.at_false (t := decide ((n ≥ (0 : Int)))) (by kernel_rfl) (decide_eq_false (by omega)) ?_
      refine Xg.at_seq ?_
      refine Xg.at_region ?_
      refine Xg.ops_op (by kernel_rfl) (Xg.opx_pure ((pv p 0)) rfl (fun _ => by kernel_rfl) ?_)
      refine Xg.ops_op (by kernel_rfl) (Xg.opx_pure ((pv p 0)) rfl (fun _ => by kernel_rfl) ?_)
      refine Xg.ops_op (by kernel_rfl) (Xg.opx_pure ((pv p 0)) rfl (fun _ => by kernel_rfl) ?_)
      refine Xg.ops_op (by kernel_rfl) (Xg.opx_load (b := p) (off := ((0 : Nat))) 1 (Value.slice ra r.length rc) rfl (by kernel_rfl) (by kernel_rfl) (by kernel_rfl) ?_)
      refine Xg.ops_op (by kernel_rfl) (Xg.opx_pure ((iv (↑r.length : Int))) rfl (fun _ => by kernel_rfl) ?_)
      refine Xg.ops_op (by kernel_rfl) (Xg.opx_pure (.bool (decide ((((↑r.length : Int)) : Int) = ((64 : Int))))) rfl (fun _ => by kernel_rfl) ?_)
      refine Xg.ops_op (by kernel_rfl) (Xg.opx_pure ((Value.bool (decide ((↑r.length : Int) = (64 : Int))))) rfl (fun _ => by kernel_rfl) ?_)
      refine Xg.ops_nil ?_
      refine Xg.at_false (t := decide (((↑r.length : Int) = (64 : Int)))) (by kernel_rfl) (decide_eq_false (by omega)) ?_
      refine Xg.at_skip ?_
      refine Xg.at_inBlock ?_
      refine Xg.at_seq ?_
      refine Xg.at_region ?_
      refine Xg.ops_op (by kernel_rfl) (Xg.opx_pure ((pv p 0)) rfl (fun _ => by kernel_rfl) ?_)
      refine Xg.ops_op (by kernel_rfl) (Xg.opx_pure ((pv p 0)) rfl (fun _ => by kernel_rfl) ?_)
      refine Xg.ops_op (by kernel_rfl) (Xg.opx_pure ((pv p 0)) rfl (fun _ => by kernel_rfl) ?_)
      refine Xg.ops_op (by kernel_rfl) (Xg.opx_pure ((pv p 0)) rfl (fun _ => by kernel_rfl) ?_)
      refine Xg.ops_op (by kernel_rfl) (Xg.opx_load (b := p) (off := ((0 : Nat))) 1 (Value.slice ra r.length rc) rfl (by kernel_rfl) (by kernel_rfl) (by kernel_rfl) ?_)
      refine Xg.ops_op (by kernel_rfl) (Xg.opx_pure ((iv id)) rfl (fun _ => by kernel_rfl) ?_)
      refine Xg.ops_op (by kernel_rfl) (Xg.opx_pure ((Value.agg #[iv id, Value.bool false])) rfl (fun _ => by kernel_rfl) ?_)
      refine Xg.ops_op (by kernel_rfl) (Xg.opx_bs (elem := 65) 2 [Value.agg #[iv id, Value.bool false]] [iv id, Value.bool false] (by kernel_rfl) (by kernel_rfl) (by decide) rfl (by kernel_rfl) (by kernel_rfl) (by kernel_rfl) (by kernel_rfl) fun xb1 => ?_)
      refine Xg.ops_op (by kernel_rfl) (Xg.opx_append_recs (elem := 65) (yv := (Value.slice (some (Addr.mk xb1 (0 : Nat) none)) (1 : Nat) (1 : Nat))) (l := r) 1 2 16 ((id, false)) rfl (by kernel_rfl) (by kernel_rfl) (by kernel_rfl) (by kernel_rfl) (fun _ hS => Xg.row_rd hS 0 rfl (by kernel_rfl)) (by kernel_rfl) (by first | omega | (simp only [List.length_nil]; omega) | (simp; omega)) (by first | omega | (simp only [List.length_nil]; omega) | (simp; omega)) fun xa1 xc1 => ?_)
      have xl1 : (r ++ [((id, false))]).length = (r).length + 1 := by simp
      refine Xg.ops_op (by kernel_rfl) (Xg.opx_pure ((pv p 0)) rfl (fun _ => by kernel_rfl) ?_)
      refine Xg.ops_op (by kernel_rfl) (Xg.opx_pure ((pv p 0)) rfl (fun _ => by kernel_rfl) ?_)
      refine Xg.ops_op (by kernel_rfl) (Xg.opx_store1 (off := 0) 2 (Value.slice xa1 (r ++ [(id, false)]).length xc1) (by kernel_rfl) rfl (by kernel_rfl) (by kernel_rfl) (by kernel_rfl) (Nat.le_of_ble_eq_true (by kernel_rfl)) ?_)
      refine Xg.ops_nil ?_
      refine Xg.at_seq ?_
      refine Xg.at_region ?_
      refine Xg.ops_op (by kernel_rfl) (Xg.opx_pure ((iv 0)) rfl (fun _ => by kernel_rfl) ?_)
      refine Xg.ops_nil ?_
      refine Xg.at_ret_ps (v := (iv 0)) [2, 1, 3] [row p (62 : TypeId) [Value.slice xa1 (r ++ [(id, false)]).length xc1, Value.slice sa s.length sc], recsO (65 : TypeId) (2 : Nat) mc xa1 xc1 (r ++ [(id, false)]), SP sa sc s] Go.Proofs.Try.func22 (fun _ => by kernel_rfl) (by kernel_rfl) (by kernel_rfl) ?_
      refine ⟨((xa1, xc1)), trivial, by kernel_rfl, by kernel_rfl⟩)

end Go.Proofs.Ytijjficnhpokdaa
