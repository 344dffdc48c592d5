/- The sched package: Begin, Round, New. -/
import Derived.Test.YtijjficnhpokdaaKP7
import Derived.Test.YtijjficnhpokdaaKS
namespace Go.Proofs.Ytijjficnhpokdaa
open Go.Sl Go.Xg
set_option linter.unusedVariables false
set_option linter.unusedSimpArgs false
set_option maxHeartbeats 4000000
set_option maxRecDepth 100000

/-- Whose turn is next: a place in the round. -/
def next (r : List (Int × Bool)) (s : List Int) : Int := fidx (free s) r
/-- What Begin answers; what it does. -/
def begV (r : List (Int × Bool)) (s : List Int) (slot : Int) : Value :=
  if slot < 0 ∨ (s.length : Int) ≤ slot ∨ 0 ≤ s.getD slot.toNat 0 then .tuple #[.int .i64 0, .int .i64 131]
  else if next r s < 0 then .tuple #[.int .i64 0, .int .i64 134]
  else .tuple #[.int .i64 (r.getD (next r s).toNat default).1, .int .i64 0]
abbrev begOk (r : List (Int × Bool)) (s : List Int) (slot : Int) : Prop := 0 ≤ slot ∧ slot < s.length ∧ s.getD slot.toNat 0 < 0 ∧ 0 ≤ next r s
def begR (r : List (Int × Bool)) (s : List Int) (slot : Int) : List (Int × Bool) := if 0 ≤ slot ∧ slot < s.length ∧ s.getD slot.toNat 0 < 0 ∧ 0 ≤ next r s then r.eraseIdx (next r s).toNat ++ [r.getD (next r s).toNat default] else r
def begS (r : List (Int × Bool)) (s : List Int) (slot : Int) : List Int := if 0 ≤ slot ∧ slot < s.length ∧ s.getD slot.toNat 0 < 0 ∧ 0 ≤ next r s then s.set slot.toNat (r.getD (next r s).toNat default).1 else s

theorem begin_d (p : Nat) (r : List (Int × Bool)) (s : List Int) (slot : Int) (h64 : r.length ≤ 64) : Does Try.prog 13 [.pointer (some ⟨p, 0, none⟩), .int .i64 slot] [SchedP p r s]
    (Ret (begV r s slot) [SchedP p (begR r s slot) (begS r s slot)]) := by
  refine closed fun ra rc sa sc => ?_
  have hE : Go.Proofs.Enters Try.prog 27 := enters_of Try.func27 (by kernel_rfl) rfl
  have hx := fun b => indexFunc_d 27 hE b (free s) (row b 29 [.pointer (some ⟨p, 0, none⟩)]) (HdP p ra r.length rc sa s.length sc) (SP sa sc s) ra rc r (fun x => beginT_d b p (RP ra rc r) ra sa r.length rc sc s x)
  have hg : -1 ≤ next r s ∧ next r s < r.length := fidx_ge r
  have hn0 : next r s = fidx (free s) r := rfl
  unfold begV begR begS
  obtain ⟨n, hn⟩ : ∃ n, next r s = n := ⟨_, rfl⟩
  rw [← hn0] at hx
  rw [hn] at hx hg ⊢
  clear hE hn hn0
  by_cases c1 : slot < 0
  · rw [if_pos (.inl c1), if_neg (by omega), if_neg (by omega)]
    (focus
      refine Xg.spec_of Go.Proofs.Try.func13 rfl Go.Proofs.Try.ntmps13 fun g F => ?_)
    (focus
      refine Xg.at_seq ?_
      refine Xg.at_region ?_
      refine Xg.ops_op (by kernel_rfl) (Xg.opx_box (v := (pv p 0)) [(pv p 0)] (by kernel_rfl) (by kernel_rfl) fun xb1 => ?_)
      refine Xg.ops_op (by kernel_rfl) (Xg.opx_pure ((iv 0)) rfl (fun _ => by kernel_rfl) ?_)
      refine Xg.ops_op (by kernel_rfl) (Xg.opx_pure ((iv 0)) rfl (fun _ => by kernel_rfl) ?_)
      refine Xg.ops_nil ?_
      refine Xg.at_seq ?_
      refine Xg.at_seq ?_
      refine Xg.at_region ?_
      refine Xg.ops_op (by kernel_rfl) (Xg.opx_pure ((iv slot)) rfl (fun _ => by kernel_rfl) ?_)
      refine Xg.ops_op (by kernel_rfl) (Xg.opx_pure (.bool (decide ((slot : Int) < ((0 : Int))))) rfl (fun _ => by kernel_rfl) ?_)
      refine Xg.ops_op (by kernel_rfl) (Xg.opx_pure ((Value.bool (decide (slot < (0 : Int))))) rfl (fun _ => by kernel_rfl) ?_)
      refine Xg.ops_flag (j := 10) (c := (decide (slot < (0 : Int)))) (by kernel_rfl) (fun _ => ?_) (fun xh1 => absurd (of_decide_eq_false xh1) (by omega))
      refine Xg.ops_skip (by kernel_rfl) ?_
      refine Xg.ops_skip (by kernel_rfl) ?_
      refine Xg.ops_skip (by kernel_rfl) ?_
      refine Xg.ops_skip (by kernel_rfl) ?_
      refine Xg.ops_skip (by kernel_rfl) ?_
      refine Xg.ops_skip (by kernel_rfl) ?_
      refine Xg.ops_skip (by kernel_rfl) ?_
      refine Xg.ops_op (by kernel_rfl) (Xg.opx_pure ((Value.bool true)) rfl (fun _ => by kernel_rfl) ?_)
      refine Xg.ops_op (by kernel_rfl) (Xg.opx_pure ((Value.bool true)) rfl (fun _ => by kernel_rfl) ?_)
      refine Xg.ops_skip (by kernel_rfl) ?_
      refine Xg.ops_skip (by kernel_rfl) ?_
      refine Xg.ops_skip (by kernel_rfl) ?_
      refine Xg.ops_skip (by kernel_rfl) ?_
      refine Xg.ops_skip (by kernel_rfl) ?_
      refine Xg.ops_skip (by kernel_rfl) ?_
      refine Xg.ops_skip (by kernel_rfl) ?_
      refine Xg.ops_skip (by kernel_rfl) ?_
      refine Xg.ops_op (by kernel_rfl) (Xg.opx_pure ((Value.bool true)) rfl (fun _ => by kernel_rfl) ?_)
      refine Xg.ops_nil ?_
      refine Xg.at_true (t := true) (by kernel_rfl) rfl ?_
      refine Xg.at_seq ?_
      refine Xg.at_region ?_
      refine Xg.ops_op (by kernel_rfl) (Xg.opx_pure ((iv 0)) rfl (fun _ => by kernel_rfl) ?_)
      refine Xg.ops_op (by kernel_rfl) (Xg.opx_pure ((iv 131)) rfl (fun _ => by kernel_rfl) ?_)
      refine Xg.ops_nil ?_
      refine Xg.at_ret_ps (v := (Value.tuple #[iv 0, iv 131])) [1, 2, 3] [HdP p ra r.length rc sa s.length sc, RP ra rc r, SP sa sc s] Go.Proofs.Try.func13 (fun _ => by kernel_rfl) (by kernel_rfl) (by kernel_rfl) ?_
      refine ⟨((ra, rc)), trivial, by kernel_rfl, by kernel_rfl⟩)
  by_cases c2 : (s.length : Int) ≤ slot
  · rw [if_pos (.inr (.inl c2)), if_neg (by omega), if_neg (by omega)]
    (focus
      refine Xg.spec_of Go.Proofs.Try.func13 rfl Go.Proofs.Try.ntmps13 fun g F => ?_)
    (focus
      refine Xg.at_seq ?_
      refine Xg.at_region ?_
      refine Xg.ops_op (by kernel_rfl) (Xg.opx_box (v := (pv p 0)) [(pv p 0)] (by kernel_rfl) (by kernel_rfl) fun xb1 => ?_)
      refine Xg.ops_op (by kernel_rfl) (Xg.opx_pure ((iv 0)) rfl (fun _ => by kernel_rfl) ?_)
      refine Xg.ops_op (by kernel_rfl) (Xg.opx_pure ((iv 0)) rfl (fun _ => by kernel_rfl) ?_)
      refine Xg.ops_nil ?_
      refine Xg.at_seq ?_
      refine Xg.at_seq ?_
      refine Xg.at_region ?_
      refine Xg.ops_op (by kernel_rfl) (Xg.opx_pure ((iv slot)) rfl (fun _ => by kernel_rfl) ?_)
      refine Xg.ops_op (by kernel_rfl) (Xg.opx_pure (.bool (decide ((slot : Int) < ((0 : Int))))) rfl (fun _ => by kernel_rfl) ?_)
      refine Xg.ops_op (by kernel_rfl) (Xg.opx_pure ((Value.bool (decide (slot < (0 : Int))))) rfl (fun _ => by kernel_rfl) ?_)
      refine Xg.ops_flag (j := 10) (c := (decide (slot < (0 : Int)))) (by kernel_rfl) (fun xh1 => absurd (of_decide_eq_true xh1) (by omega)) (fun _ => ?_)
      refine Xg.ops_op (by kernel_rfl) (Xg.opx_pure ((iv slot)) rfl (fun _ => by kernel_rfl) ?_)
      refine Xg.ops_op (by kernel_rfl) (Xg.opx_load (b := xb1) (off := ((0 : Nat))) 0 (pv p 0) rfl (by kernel_rfl) (by kernel_rfl) (by kernel_rfl) ?_)
      refine Xg.ops_op (by kernel_rfl) (Xg.opx_pure ((pv p 0)) rfl (fun _ => by kernel_rfl) ?_)
      refine Xg.ops_op (by kernel_rfl) (Xg.opx_pure ((pv p 1)) rfl (fun _ => by kernel_rfl) ?_)
      refine Xg.ops_op (by kernel_rfl) (Xg.opx_load (b := p) (off := ((1 : Nat))) 1 (Value.slice sa s.length sc) rfl (by kernel_rfl) (by kernel_rfl) (by kernel_rfl) ?_)
      refine Xg.ops_op (by kernel_rfl) (Xg.opx_pure ((iv (↑s.length : Int))) rfl (fun _ => by kernel_rfl) ?_)
      refine Xg.ops_op (by kernel_rfl) (Xg.opx_pure (.bool (decide ((slot : Int) ≥ ((↑s.length : Int))))) rfl (fun _ => by kernel_rfl) ?_)
      refine Xg.ops_flag (j := 17) (c := (decide (slot ≥ (↑s.length : Int)))) (by kernel_rfl) (fun _ => ?_) (fun xh1 => absurd (of_decide_eq_false xh1) (by omega))
      refine Xg.ops_op (by kernel_rfl) (Xg.opx_pure ((Value.bool true)) rfl (fun _ => by kernel_rfl) ?_)
      refine Xg.ops_op (by kernel_rfl) (Xg.opx_pure ((Value.bool true)) rfl (fun _ => by kernel_rfl) ?_)
      refine Xg.ops_skip (by kernel_rfl) ?_
      refine Xg.ops_skip (by kernel_rfl) ?_
      refine Xg.ops_skip (by kernel_rfl) ?_
      refine Xg.ops_skip (by kernel_rfl) ?_
      refine Xg.ops_skip (by kernel_rfl) ?_
      refine Xg.ops_skip (by kernel_rfl) ?_
      refine Xg.ops_skip (by kernel_rfl) ?_
      refine Xg.ops_skip (by kernel_rfl) ?_
      refine Xg.ops_op (by kernel_rfl) (Xg.opx_pure ((Value.bool true)) rfl (fun _ => by kernel_rfl) ?_)
      refine Xg.ops_nil ?_
      refine Xg.at_true (t := true) (by kernel_rfl) rfl ?_
      refine Xg.at_seq ?_
      refine Xg.at_region ?_
      refine Xg.ops_op (by kernel_rfl) (Xg.opx_pure ((iv 0)) rfl (fun _ => by kernel_rfl) ?_)
      refine Xg.ops_op (by kernel_rfl) (Xg.opx_pure ((iv 131)) rfl (fun _ => by kernel_rfl) ?_)
      refine Xg.ops_nil ?_
      refine Xg.at_ret_ps (v := (Value.tuple #[iv 0, iv 131])) [1, 2, 3] [HdP p ra r.length rc sa s.length sc, RP ra rc r, SP sa sc s] Go.Proofs.Try.func13 (fun _ => by kernel_rfl) (by kernel_rfl) (by kernel_rfl) ?_
      refine ⟨((ra, rc)), trivial, by kernel_rfl, by kernel_rfl⟩)
  obtain ⟨k, rfl⟩ : ∃ k : Nat, slot = k := ⟨slot.toNat, by omega⟩
  rw [Int.toNat_natCast]
  by_cases c3 : 0 ≤ s.getD k 0
  · rw [if_pos (.inr (.inr c3)), if_neg (by omega), if_neg (by omega)]
    (focus
      refine Xg.spec_of Go.Proofs.Try.func13 rfl Go.Proofs.Try.ntmps13 fun g F => ?_)
    (focus
      refine Xg.at_seq ?_
      refine Xg.at_region ?_
      refine Xg.ops_op (by kernel_rfl) (Xg.opx_box (v := (pv p 0)) [(pv p 0)] (by kernel_rfl) (by kernel_rfl) fun xb1 => ?_)
      refine Xg.ops_op (by kernel_rfl) (Xg.opx_pure ((iv 0)) rfl (fun _ => by kernel_rfl) ?_)
      refine Xg.ops_op (by kernel_rfl) (Xg.opx_pure ((iv 0)) rfl (fun _ => by kernel_rfl) ?_)
      refine Xg.ops_nil ?_
      refine Xg.at_seq ?_
      refine Xg.at_seq ?_
      refine Xg.at_region ?_
      refine Xg.ops_op (by kernel_rfl) (Xg.opx_pure ((iv (↑k : Int))) rfl (fun _ => by kernel_rfl) ?_)
      refine Xg.ops_op (by kernel_rfl) (Xg.opx_pure (.bool (decide ((((↑k : Int)) : Int) < ((0 : Int))))) rfl (fun _ => by kernel_rfl) ?_)
      refine Xg.ops_op (by kernel_rfl) (Xg.opx_pure ((Value.bool (decide ((↑k : Int) < (0 : Int))))) rfl (fun _ => by kernel_rfl) ?_)
      refine Xg.ops_op (by kernel_rfl) (Xg.opx_pure ((iv (↑k : Int))) rfl (fun _ => by kernel_rfl) ?_)
      refine Xg.ops_op (by kernel_rfl) (Xg.opx_load (b := xb1) (off := ((0 : Nat))) 0 (pv p 0) rfl (by kernel_rfl) (by kernel_rfl) (by kernel_rfl) ?_)
      refine Xg.ops_op (by kernel_rfl) (Xg.opx_pure ((pv p 0)) rfl (fun _ => by kernel_rfl) ?_)
      refine Xg.ops_op (by kernel_rfl) (Xg.opx_pure ((pv p 1)) rfl (fun _ => by kernel_rfl) ?_)
      refine Xg.ops_op (by kernel_rfl) (Xg.opx_load (b := p) (off := ((1 : Nat))) 1 (Value.slice sa s.length sc) rfl (by kernel_rfl) (by kernel_rfl) (by kernel_rfl) ?_)
      refine Xg.ops_op (by kernel_rfl) (Xg.opx_pure ((iv (↑s.length : Int))) rfl (fun _ => by kernel_rfl) ?_)
      refine Xg.ops_op (by kernel_rfl) (Xg.opx_pure (.bool (decide ((((↑k : Int)) : Int) ≥ ((↑s.length : Int))))) rfl (fun _ => by kernel_rfl) ?_)
      refine Xg.ops_flag (j := 10) (c := (decide ((↑k : Int) < (0 : Int)))) (by kernel_rfl) (fun xh1 => absurd (of_decide_eq_true xh1) (by omega)) (fun _ => ?_)
      refine Xg.ops_flag (j := 17) (c := (decide ((↑k : Int) ≥ (↑s.length : Int)))) (by kernel_rfl) (fun xh1 => absurd (of_decide_eq_true xh1) (by omega)) (fun _ => ?_)
      refine Xg.ops_op (by kernel_rfl) (Xg.opx_pure ((Value.bool false)) rfl (fun _ => by kernel_rfl) ?_)
      refine Xg.ops_op (by kernel_rfl) (Xg.opx_pure ((Value.bool false)) rfl (fun _ => by kernel_rfl) ?_)
      refine Xg.ops_op (by kernel_rfl) (Xg.opx_load (b := xb1) (off := ((0 : Nat))) 0 (pv p 0) rfl (by kernel_rfl) (by kernel_rfl) (by kernel_rfl) ?_)
      refine Xg.ops_op (by kernel_rfl) (Xg.opx_pure ((pv p 0)) rfl (fun _ => by kernel_rfl) ?_)
      refine Xg.ops_op (by kernel_rfl) (Xg.opx_pure ((pv p 1)) rfl (fun _ => by kernel_rfl) ?_)
      refine Xg.ops_op (by kernel_rfl) (Xg.opx_load (b := p) (off := ((1 : Nat))) 1 (Value.slice sa s.length sc) rfl (by kernel_rfl) (by kernel_rfl) (by kernel_rfl) ?_)
      refine Xg.ops_op (by kernel_rfl) (Xg.opx_pure ((iv (↑k : Int))) rfl (fun _ => by kernel_rfl) ?_)
      refine Xg.ops_op (by kernel_rfl) (Xg.opx_ix_own (elem := 3) (kd := .i64) (e := ((↑k : Int))) 3 1 k k rfl (by kernel_rfl) (by kernel_rfl) (by kernel_rfl) (by kernel_rfl) rfl (by omega) (by omega) ?_)
      refine Xg.ops_op (by kernel_rfl) (Xg.opx_load_own (a := sa) (off := k) 3 (iv (s.getD k (0 : Int))) rfl (by kernel_rfl) (Xg.get_ints (by omega)) (by kernel_rfl) ?_)
      refine Xg.ops_op (by kernel_rfl) (Xg.opx_pure (.bool (decide (((s.getD k (0 : Int)) : Int) ≥ ((0 : Int))))) rfl (fun _ => by kernel_rfl) ?_)
      refine Xg.ops_flag (j := 27) (c := (decide (s.getD k (0 : Int) ≥ (0 : Int)))) (by kernel_rfl) (fun _ => ?_) (fun xh1 => absurd (of_decide_eq_false xh1) (by omega))
      refine Xg.ops_op (by kernel_rfl) (Xg.opx_pure ((Value.bool true)) rfl (fun _ => by kernel_rfl) ?_)
      refine Xg.ops_nil ?_
      refine Xg.at_true (t := true) (by kernel_rfl) rfl ?_
      refine Xg.at_seq ?_
      refine Xg.at_region ?_
      refine Xg.ops_op (by kernel_rfl) (Xg.opx_pure ((iv 0)) rfl (fun _ => by kernel_rfl) ?_)
      refine Xg.ops_op (by kernel_rfl) (Xg.opx_pure ((iv 131)) rfl (fun _ => by kernel_rfl) ?_)
      refine Xg.ops_nil ?_
      refine Xg.at_ret_ps (v := (Value.tuple #[iv 0, iv 131])) [1, 2, 3] [HdP p ra r.length rc sa s.length sc, RP ra rc r, SP sa sc s] Go.Proofs.Try.func13 (fun _ => by kernel_rfl) (by kernel_rfl) (by kernel_rfl) ?_
      refine ⟨((ra, rc)), trivial, by kernel_rfl, by kernel_rfl⟩)
  by_cases c4 : n < 0
  · rw [if_neg (by omega), if_pos c4, if_neg (by omega), if_neg (by omega)]
    (focus
      refine Xg.spec_of Go.Proofs.Try.func13 rfl Go.Proofs.Try.ntmps13 fun g F => ?_)
    (focus
      refine Xg.at_seq ?_
      refine Xg.at_region ?_
      refine Xg.ops_op (by kernel_rfl) (Xg.opx_box (v := (pv p 0)) [(pv p 0)] (by kernel_rfl) (by kernel_rfl) fun xb1 => ?_)
      refine Xg.ops_op (by kernel_rfl) (Xg.opx_pure ((iv 0)) rfl (fun _ => by kernel_rfl) ?_)
      refine Xg.ops_op (by kernel_rfl) (Xg.opx_pure ((iv 0)) rfl (fun _ => by kernel_rfl) ?_)
      refine Xg.ops_nil ?_
      refine Xg.at_seq ?_
      refine Xg.at_seq ?_
      refine Xg.at_region ?_
      refine Xg.ops_op (by kernel_rfl) (Xg.opx_pure ((iv (↑k : Int))) rfl (fun _ => by kernel_rfl) ?_)
      refine Xg.ops_op (by kernel_rfl) (Xg.opx_pure (.bool (decide ((((↑k : Int)) : Int) < ((0 : Int))))) rfl (fun _ => by kernel_rfl) ?_)
      refine Xg.ops_op (by kernel_rfl) (Xg.opx_pure ((Value.bool (decide ((↑k : Int) < (0 : Int))))) rfl (fun _ => by kernel_rfl) ?_)
      refine Xg.ops_op (by kernel_rfl) (Xg.opx_pure ((iv (↑k : Int))) rfl (fun _ => by kernel_rfl) ?_)
      refine Xg.ops_op (by kernel_rfl) (Xg.opx_load (b := xb1) (off := ((0 : Nat))) 0 (pv p 0) rfl (by kernel_rfl) (by kernel_rfl) (by kernel_rfl) ?_)
      refine Xg.ops_op (by kernel_rfl) (Xg.opx_pure ((pv p 0)) rfl (fun _ => by kernel_rfl) ?_)
      refine Xg.ops_op (by kernel_rfl) (Xg.opx_pure ((pv p 1)) rfl (fun _ => by kernel_rfl) ?_)
      refine Xg.ops_op (by kernel_rfl) (Xg.opx_load (b := p) (off := ((1 : Nat))) 1 (Value.slice sa s.length sc) rfl (by kernel_rfl) (by kernel_rfl) (by kernel_rfl) ?_)
      refine Xg.ops_op (by kernel_rfl) (Xg.opx_pure ((iv (↑s.length : Int))) rfl (fun _ => by kernel_rfl) ?_)
      refine Xg.ops_op (by kernel_rfl) (Xg.opx_pure (.bool (decide ((((↑k : Int)) : Int) ≥ ((↑s.length : Int))))) rfl (fun _ => by kernel_rfl) ?_)
      refine Xg.ops_flag (j := 10) (c := (decide ((↑k : Int) < (0 : Int)))) (by kernel_rfl) (fun xh1 => absurd (of_decide_eq_true xh1) (by omega)) (fun _ => ?_)
      refine Xg.ops_flag (j := 17) (c := (decide ((↑k : Int) ≥ (↑s.length : Int)))) (by kernel_rfl) (fun xh1 => absurd (of_decide_eq_true xh1) (by omega)) (fun _ => ?_)
      refine Xg.ops_op (by kernel_rfl) (Xg.opx_pure ((Value.bool false)) rfl (fun _ => by kernel_rfl) ?_)
      refine Xg.ops_op (by kernel_rfl) (Xg.opx_pure ((Value.bool false)) rfl (fun _ => by kernel_rfl) ?_)
      refine Xg.ops_op (by kernel_rfl) (Xg.opx_load (b := xb1) (off := ((0 : Nat))) 0 (pv p 0) rfl (by kernel_rfl) (by kernel_rfl) (by kernel_rfl) ?_)
      refine Xg.ops_op (by kernel_rfl) (Xg.opx_pure ((pv p 0)) rfl (fun _ => by kernel_rfl) ?_)
      refine Xg.ops_op (by kernel_rfl) (Xg.opx_pure ((pv p 1)) rfl (fun _ => by kernel_rfl) ?_)
      refine Xg.ops_op (by kernel_rfl) (Xg.opx_load (b := p) (off := ((1 : Nat))) 1 (Value.slice sa s.length sc) rfl (by kernel_rfl) (by kernel_rfl) (by kernel_rfl) ?_)
      refine Xg.ops_op (by kernel_rfl) (Xg.opx_pure ((iv (↑k : Int))) rfl (fun _ => by kernel_rfl) ?_)
      refine Xg.ops_op (by kernel_rfl) (Xg.opx_ix_own (elem := 3) (kd := .i64) (e := ((↑k : Int))) 3 1 k k rfl (by kernel_rfl) (by kernel_rfl) (by kernel_rfl) (by kernel_rfl) rfl (by omega) (by omega) ?_)
      refine Xg.ops_op (by kernel_rfl) (Xg.opx_load_own (a := sa) (off := k) 3 (iv (s.getD k (0 : Int))) rfl (by kernel_rfl) (Xg.get_ints (by omega)) (by kernel_rfl) ?_)
      refine Xg.ops_op (by kernel_rfl) (Xg.opx_pure (.bool (decide (((s.getD k (0 : Int)) : Int) ≥ ((0 : Int))))) rfl (fun _ => by kernel_rfl) ?_)
      refine Xg.ops_flag (j := 27) (c := (decide (s.getD k (0 : Int) ≥ (0 : Int)))) (by kernel_rfl) (fun xh1 => absurd (of_decide_eq_true xh1) (by omega)) (fun _ => ?_)
      refine Xg.ops_op (by kernel_rfl) (Xg.opx_pure ((Value.bool false)) rfl (fun _ => by kernel_rfl) ?_)
      refine Xg.ops_nil ?_
      refine Xg.at_false (t := false) (by kernel_rfl) rfl ?_
      refine Xg.at_skip ?_
      refine Xg.at_seq ?_
      refine Xg.at_region ?_
      refine Xg.ops_op (by kernel_rfl) (Xg.opx_load (b := xb1) (off := ((0 : Nat))) 0 (pv p 0) rfl (by kernel_rfl) (by kernel_rfl) (by kernel_rfl) ?_)
      refine Xg.ops_op (by kernel_rfl) (Xg.opx_pure ((pv p 0)) rfl (fun _ => by kernel_rfl) ?_)
      refine Xg.ops_op (by kernel_rfl) (Xg.opx_pure ((pv p 0)) rfl (fun _ => by kernel_rfl) ?_)
      refine Xg.ops_op (by kernel_rfl) (Xg.opx_load (b := p) (off := ((0 : Nat))) 1 (Value.slice ra r.length rc) rfl (by kernel_rfl) (by kernel_rfl) (by kernel_rfl) ?_)
      refine Xg.ops_op (by kernel_rfl) (Xg.opx_pure ((Value.func (Fn.func (27 : Nat)) #[] #[pv xb1 0])) rfl (fun _ => by kernel_rfl) ?_)
      refine Xg.ops_op (by kernel_rfl) (Xg.opx_call1' [2, 0, 1, 3] [RP ra rc r, row xb1 (29 : TypeId) [pv p 0], HdP p ra r.length rc sa s.length sc, SP sa sc s] (fun _ => by kernel_rfl) (@hx (xb1)) (by kernel_rfl) (by kernel_rfl) (by kernel_rfl) ?_)
      refine Xg.ops_op (by kernel_rfl) (Xg.opx_pure ((iv n)) rfl (fun _ => by kernel_rfl) ?_)
      refine Xg.ops_nil ?_
      refine Xg.at_seq ?_
      refine Xg.at_seq ?_
      refine Xg.at_region ?_
      refine Xg.ops_op (by kernel_rfl) (Xg.opx_pure ((iv n)) rfl (fun _ => by kernel_rfl) ?_)
      refine Xg.ops_op (by kernel_rfl) (Xg.opx_pure (.bool (decide ((n : Int) < ((0 : Int))))) rfl (fun _ => by kernel_rfl) ?_)
      refine Xg.ops_nil ?_
      refine Xg.at_true (t := decide ((n < (0 : Int)))) (by kernel_rfl) (decide_eq_true (by omega)) ?_
      refine Xg.at_seq ?_
      refine Xg.at_region ?_
      refine Xg.ops_op (by kernel_rfl) (Xg.opx_pure ((iv 0)) rfl (fun _ => by kernel_rfl) ?_)
      refine Xg.ops_op (by kernel_rfl) (Xg.opx_pure ((iv 134)) rfl (fun _ => by kernel_rfl) ?_)
      refine Xg.ops_nil ?_
      refine Xg.at_ret_ps (v := (Value.tuple #[iv 0, iv 134])) [2, 0, 3] [HdP p ra r.length rc sa s.length sc, RP ra rc r, SP sa sc s] Go.Proofs.Try.func13 (fun _ => by kernel_rfl) (by kernel_rfl) (by kernel_rfl) ?_
      refine ⟨((ra, rc)), trivial, by kernel_rfl, by kernel_rfl⟩)
  · rw [if_neg (by omega), if_neg c4, if_pos (by omega), if_pos (by omega)]
    obtain ⟨i, rfl⟩ : ∃ i : Nat, n = i := ⟨n.toNat, by omega⟩
    have hi : i < r.length := by omega
    have hd := delete_d ra rc r i hi
    rw [Int.toNat_natCast]
    have hl : (r.eraseIdx i).length = r.length - 1 := by rw [List.length_eraseIdx, if_pos hi]
    (focus
      refine Xg.spec_of Go.Proofs.Try.func13 rfl Go.Proofs.Try.ntmps13 fun g F => ?_)
    refine Xg.at_off 2 rfl (by omega) fun hoff => ?_
    (focus
      refine Xg.at_seq ?_
      refine Xg.at_region ?_
      refine Xg.ops_op (by kernel_rfl) (Xg.opx_box (v := (pv p 0)) [(pv p 0)] (by kernel_rfl) (by kernel_rfl) fun xb1 => ?_)
      refine Xg.ops_op (by kernel_rfl) (Xg.opx_pure ((iv 0)) rfl (fun _ => by kernel_rfl) ?_)
      refine Xg.ops_op (by kernel_rfl) (Xg.opx_pure ((iv 0)) rfl (fun _ => by kernel_rfl) ?_)
      refine Xg.ops_nil ?_
      refine Xg.at_seq ?_
      refine Xg.at_seq ?_
      refine Xg.at_region ?_
      refine Xg.ops_op (by kernel_rfl) (Xg.opx_pure ((iv (↑k : Int))) rfl (fun _ => by kernel_rfl) ?_)
      refine Xg.ops_op (by kernel_rfl) (Xg.opx_pure (.bool (decide ((((↑k : Int)) : Int) < ((0 : Int))))) rfl (fun _ => by kernel_rfl) ?_)
      refine Xg.ops_op (by kernel_rfl) (Xg.opx_pure ((Value.bool (decide ((↑k : Int) < (0 : Int))))) rfl (fun _ => by kernel_rfl) ?_)
      refine Xg.ops_op (by kernel_rfl) (Xg.opx_pure ((iv (↑k : Int))) rfl (fun _ => by kernel_rfl) ?_)
      refine Xg.ops_op (by kernel_rfl) (Xg.opx_load (b := xb1) (off := ((0 : Nat))) 0 (pv p 0) rfl (by kernel_rfl) (by kernel_rfl) (by kernel_rfl) ?_)
      refine Xg.ops_op (by kernel_rfl) (Xg.opx_pure ((pv p 0)) rfl (fun _ => by kernel_rfl) ?_)
      refine Xg.ops_op (by kernel_rfl) (Xg.opx_pure ((pv p 1)) rfl (fun _ => by kernel_rfl) ?_)
      refine Xg.ops_op (by kernel_rfl) (Xg.opx_load (b := p) (off := ((1 : Nat))) 1 (Value.slice sa s.length sc) rfl (by kernel_rfl) (by kernel_rfl) (by kernel_rfl) ?_)
      refine Xg.ops_op (by kernel_rfl) (Xg.opx_pure ((iv (↑s.length : Int))) rfl (fun _ => by kernel_rfl) ?_)
      refine Xg.ops_op (by kernel_rfl) (Xg.opx_pure (.bool (decide ((((↑k : Int)) : Int) ≥ ((↑s.length : Int))))) rfl (fun _ => by kernel_rfl) ?_)
      refine Xg.ops_flag (j := 10) (c := (decide ((↑k : Int) < (0 : Int)))) (by kernel_rfl) (fun xh1 => absurd (of_decide_eq_true xh1) (by omega)) (fun _ => ?_)
      refine Xg.ops_flag (j := 17) (c := (decide ((↑k : Int) ≥ (↑s.length : Int)))) (by kernel_rfl) (fun xh1 => absurd (of_decide_eq_true xh1) (by omega)) (fun _ => ?_)
      refine Xg.ops_op (by kernel_rfl) (Xg.opx_pure ((Value.bool false)) rfl (fun _ => by kernel_rfl) ?_)
      refine Xg.ops_op (by kernel_rfl) (Xg.opx_pure ((Value.bool false)) rfl (fun _ => by kernel_rfl) ?_)
      refine Xg.ops_op (by kernel_rfl) (Xg.opx_load (b := xb1) (off := ((0 : Nat))) 0 (pv p 0) rfl (by kernel_rfl) (by kernel_rfl) (by kernel_rfl) ?_)
      refine Xg.ops_op (by kernel_rfl) (Xg.opx_pure ((pv p 0)) rfl (fun _ => by kernel_rfl) ?_)
      refine Xg.ops_op (by kernel_rfl) (Xg.opx_pure ((pv p 1)) rfl (fun _ => by kernel_rfl) ?_)
      refine Xg.ops_op (by kernel_rfl) (Xg.opx_load (b := p) (off := ((1 : Nat))) 1 (Value.slice sa s.length sc) rfl (by kernel_rfl) (by kernel_rfl) (by kernel_rfl) ?_)
      refine Xg.ops_op (by kernel_rfl) (Xg.opx_pure ((iv (↑k : Int))) rfl (fun _ => by kernel_rfl) ?_)
      refine Xg.ops_op (by kernel_rfl) (Xg.opx_ix_own (elem := 3) (kd := .i64) (e := ((↑k : Int))) 3 1 k k rfl (by kernel_rfl) (by kernel_rfl) (by kernel_rfl) (by kernel_rfl) rfl (by omega) (by omega) ?_)
      refine Xg.ops_op (by kernel_rfl) (Xg.opx_load_own (a := sa) (off := k) 3 (iv (s.getD k (0 : Int))) rfl (by kernel_rfl) (Xg.get_ints (by omega)) (by kernel_rfl) ?_)
      refine Xg.ops_op (by kernel_rfl) (Xg.opx_pure (.bool (decide (((s.getD k (0 : Int)) : Int) ≥ ((0 : Int))))) rfl (fun _ => by kernel_rfl) ?_)
      refine Xg.ops_flag (j := 27) (c := (decide (s.getD k (0 : Int) ≥ (0 : Int)))) (by kernel_rfl) (fun xh1 => absurd (of_decide_eq_true xh1) (by omega)) (fun _ => ?_)
      refine Xg.ops_op (by kernel_rfl) (Xg.opx_pure ((Value.bool false)) rfl (fun _ => by kernel_rfl) ?_)
      refine Xg.ops_nil ?_
      refine Xg.at_false (t := false) (by kernel_rfl) rfl ?_
      refine Xg.at_skip ?_
      refine Xg.at_seq ?_
      refine Xg.at_region ?_
      refine Xg.ops_op (by kernel_rfl) (Xg.opx_load (b := xb1) (off := ((0 : Nat))) 0 (pv p 0) rfl (by kernel_rfl) (by kernel_rfl) (by kernel_rfl) ?_)
      refine Xg.ops_op (by kernel_rfl) (Xg.opx_pure ((pv p 0)) rfl (fun _ => by kernel_rfl) ?_)
      refine Xg.ops_op (by kernel_rfl) (Xg.opx_pure ((pv p 0)) rfl (fun _ => by kernel_rfl) ?_)
      refine Xg.ops_op (by kernel_rfl) (Xg.opx_load (b := p) (off := ((0 : Nat))) 1 (Value.slice ra r.length rc) rfl (by kernel_rfl) (by kernel_rfl) (by kernel_rfl) ?_)
      refine Xg.ops_op (by kernel_rfl) (Xg.opx_pure ((Value.func (Fn.func (27 : Nat)) #[] #[pv xb1 0])) rfl (fun _ => by kernel_rfl) ?_)
      refine Xg.ops_op (by kernel_rfl) (Xg.opx_call1' [2, 0, 1, 3] [RP ra rc r, row xb1 (29 : TypeId) [pv p 0], HdP p ra r.length rc sa s.length sc, SP sa sc s] (fun _ => by kernel_rfl) (@hx (xb1)) (by kernel_rfl) (by kernel_rfl) (by kernel_rfl) ?_)
      refine Xg.ops_op (by kernel_rfl) (Xg.opx_pure ((iv (↑i : Int))) rfl (fun _ => by kernel_rfl) ?_)
      refine Xg.ops_nil ?_
      refine Xg.at_seq ?_
      refine Xg.at_seq ?_
      refine Xg.at_region ?_
      refine Xg.ops_op (by kernel_rfl) (Xg.opx_pure ((iv (↑i : Int))) rfl (fun _ => by kernel_rfl) ?_)
      refine Xg.ops_op (by kernel_rfl) (Xg.opx_pure (.bool (decide ((((↑i : Int)) : Int) < ((0 : Int))))) rfl (fun _ => by kernel_rfl) ?_)
      refine Xg.ops_nil ?_
      refine Xg.at_false (t := false) (by kernel_rfl) rfl ?_
      refine Xg.at_skip ?_
      refine Xg.at_seq ?_
      refine Xg.at_region ?_
      refine Xg.ops_op (by kernel_rfl) (Xg.opx_load (b := xb1) (off := ((0 : Nat))) 1 (pv p 0) rfl (by kernel_rfl) (by kernel_rfl) (by kernel_rfl) ?_)
      refine Xg.ops_op (by kernel_rfl) (Xg.opx_pure ((pv p 0)) rfl (fun _ => by kernel_rfl) ?_)
      refine Xg.ops_op (by kernel_rfl) (Xg.opx_pure ((pv p 0)) rfl (fun _ => by kernel_rfl) ?_)
      refine Xg.ops_op (by kernel_rfl) (Xg.opx_load (b := p) (off := ((0 : Nat))) 2 (Value.slice ra r.length rc) rfl (by kernel_rfl) (by kernel_rfl) (by kernel_rfl) ?_)
      refine Xg.ops_op (by kernel_rfl) (Xg.opx_pure ((iv (↑i : Int))) rfl (fun _ => by kernel_rfl) ?_)
      refine Xg.ops_op (by kernel_rfl) (Xg.opx_ix_own (elem := 65) (kd := .i64) (e := ((↑i : Int))) 0 2 i (i * (2 : Nat)) rfl (by kernel_rfl) (by kernel_rfl) (by kernel_rfl) (by kernel_rfl) rfl (by omega) (by omega) ?_)
      refine Xg.ops_op (by kernel_rfl) (Xg.opx_loadn_own (a := ra) (off := (i * (2 : Nat))) 2 0 [iv (r.getD i default).fst, Value.bool (r.getD i default).snd] (by kernel_rfl) rfl (by kernel_rfl) rfl (Xg.recs_at' (wd := 2) (fun _ => rfl) default i (by omega) (by omega) (by kernel_rfl)) (by kernel_rfl) ?_)
      refine Xg.ops_op (by kernel_rfl) (Xg.opx_new 2 [iv 0, Value.bool false] (by kernel_rfl) (by kernel_rfl) fun xb2 => ?_)
      refine Xg.ops_op (by kernel_rfl) (Xg.opx_storen 2 (off := 0) 0 [iv (r.getD i default).fst, Value.bool (r.getD i default).snd] (by kernel_rfl) rfl (by kernel_rfl) (by kernel_rfl) rfl (by kernel_rfl) (Nat.le_of_ble_eq_true (by kernel_rfl)) ?_)
      refine Xg.ops_nil ?_
      refine Xg.at_seq ?_)
    generalize r.getD i default = m
    obtain ⟨m1, m2⟩ := m
    dsimp only
    (focus
      refine Xg.at_cut (α := (Option Addr × Nat) × (Nat → Value)) (fun x9 => ((fun x => True) : (Option Addr × Nat) → Prop) x9.1) (fun x9 => Xg.headT [pv p 0, iv (↑k : Int), pv xb1 0, tu, iv 0, iv 0, iv (↑i : Int), pv xb2 0, iv (↑k : Int), Value.bool (decide ((↑k : Int) < (0 : Int))), Value.bool false, iv (↑k : Int), pv p 0, pv p 0, pv p 1, Value.slice sa s.length sc, iv (↑s.length : Int), Value.bool false, Value.bool false, Value.bool false, pv p 0, pv p 0, pv p 1, Value.slice sa s.length sc, iv (↑k : Int), Value.pointer (some (Addr.mk (blk sa) k none)), iv (s.getD k (0 : Int)), Value.bool false, Value.bool false, pv p 0, pv p 0, pv p 0, Value.slice ra r.length rc, Value.func (Fn.func (27 : Nat)) #[] #[pv xb1 0], iv (↑i : Int), iv (↑i : Int), Value.bool (decide ((↑i : Int) < (0 : Int))), pv p 0, pv p 0, pv p 0, Value.slice ra r.length rc, iv (↑i : Int), Value.pointer (some (Addr.mk (blk ra) (i * (2 : Nat)) none)), Value.agg #[iv m1, Value.bool m2], tu, tu, tu, tu, tu, tu, tu, tu, tu, tu, tu, tu, tu, tu, tu, tu, tu, tu, tu, tu, tu, tu, tu, tu] [44, 45, 46, 47, 48, 49, 50, 51, 52, 53, 54, 55, 56, 57] (((fun x => []) : (Option Addr × Nat) → List (Nat × Go.Value)) x9.1) x9.2) (fun x9 => ((fun x => [HdP p x.1 (r.eraseIdx i ++ [(m1, m2)]).length x.2 sa s.length sc, RP x.1 x.2 (r.eraseIdx i ++ [(m1, m2)]), row xb1 29 [.pointer (some ⟨p, 0, none⟩)], row xb2 65 [.int .i64 m1, .bool m2], SP sa sc s]) : (Option Addr × Nat) → List Go.Sl.HP) x9.1) (fun kk hk => ?_) ?_)
    · (focus
        refine Xg.at_draw [8, 9, 10, 11, 14] [(0, [0, 1, 2, 3, 4, 5, 6, 7, 8, 9, 10, 11], Xg.CellIs (xb1) (((0 : Nat))) ((pv p 0))), (1, [0, 1, 5, 6, 7, 9, 10], Xg.CellIs (xb1) (((0 : Nat))) ((pv p 0))), (4, [0, 1, 2, 3, 4, 5, 6, 7, 9, 10], Xg.CellIs (p) (((0 : Nat))) ((Value.slice ra r.length rc)))] (by kernel_rfl) ?_
        refine Xg.any_reads (pv p 0) 0 0 (by kernel_rfl) rfl (by kernel_rfl) (by kernel_rfl) (by kernel_rfl) (by kernel_rfl) rfl rfl (by kernel_rfl) (Xg.cell_now (b := xb1) (off := ((0 : Nat))) 2 rfl (by kernel_rfl)) (fun _ h => Xg.run_load (by kernel_rfl) (by kernel_rfl) h) ?_
        refine Xg.any_reads (pv p 0) 1 1 (by kernel_rfl) rfl (by kernel_rfl) (by kernel_rfl) (by kernel_rfl) (by kernel_rfl) rfl rfl (by kernel_rfl) (Xg.cell_now (b := xb1) (off := ((0 : Nat))) 2 rfl (by kernel_rfl)) (fun _ h => Xg.run_load (by kernel_rfl) (by kernel_rfl) h) ?_
        refine Xg.any_pure ((pv p 0)) 2 (by kernel_rfl) rfl (by kernel_rfl) (by kernel_rfl) (by kernel_rfl) (by kernel_rfl) rfl (fun _ => by kernel_rfl) ?_
        refine Xg.any_pure ((pv p 0)) 3 (by kernel_rfl) rfl (by kernel_rfl) (by kernel_rfl) (by kernel_rfl) (by kernel_rfl) rfl (fun _ => by kernel_rfl) ?_
        refine Xg.any_reads (Value.slice ra r.length rc) 4 2 (by kernel_rfl) rfl (by kernel_rfl) (by kernel_rfl) (by kernel_rfl) (by kernel_rfl) rfl rfl (by kernel_rfl) (Xg.cell_now (b := p) (off := ((0 : Nat))) 3 rfl (by kernel_rfl)) (fun _ h => Xg.run_load (by kernel_rfl) (by kernel_rfl) h) ?_
        refine Xg.any_pure ((iv (↑i : Int))) 5 (by kernel_rfl) rfl (by kernel_rfl) (by kernel_rfl) (by kernel_rfl) (by kernel_rfl) rfl (fun _ => by kernel_rfl) ?_
        refine Xg.any_pure ((iv (↑i : Int))) 6 (by kernel_rfl) rfl (by kernel_rfl) (by kernel_rfl) (by kernel_rfl) (by kernel_rfl) rfl (fun _ => by kernel_rfl) ?_
        refine Xg.any_int .i64 (IntKind.wrap .i64 (((↑i : Int) + (1 : Int)))) 7 (by kernel_rfl) rfl (by kernel_rfl) (by kernel_rfl) (by kernel_rfl) (by kernel_rfl) rfl (fun _ => by kernel_rfl) (Xg.wrap_i64_in (by omega)) ?_
        refine Xg.any_each [8, 9] (by kernel_rfl) rfl ⟨?_, ?_, trivial⟩
        refine Xg.comes_act rfl (by kernel_rfl) (by kernel_rfl) (Xg.opx_call1' [1] [RP ra rc (r.eraseIdx i), row xb2 (65 : Nat) [iv m1, Value.bool m2], row xb1 (29 : TypeId) [pv p 0], HdP p ra r.length rc sa s.length sc, SP sa sc s] (fun _ => by kernel_rfl) (@hd ) (by kernel_rfl) (by kernel_rfl) (by kernel_rfl) ?_)
        refine Xg.acts (Xg.owes_cell 2 rfl (by kernel_rfl) (Xg.owes_skip (by kernel_rfl) (Xg.owes_skip (by kernel_rfl) Xg.owes_nil))) ?_
        rotate_left
        refine Xg.comes_act rfl (by kernel_rfl) (by kernel_rfl) (Xg.opx_loadn (off := 0) 2 0 [iv m1, Value.bool m2] (by kernel_rfl) rfl (by kernel_rfl) rfl (Xg.cells_at (by kernel_rfl)) (by kernel_rfl) ?_)
        refine Xg.acts (Xg.owes_cell 2 rfl (by kernel_rfl) (Xg.owes_cell 2 rfl (by kernel_rfl) (Xg.owes_cell 3 rfl (by kernel_rfl) Xg.owes_nil))) ?_
        rotate_left
        refine Xg.any_each [9] (by kernel_rfl) rfl ⟨?_, trivial⟩
        refine Xg.comes_act rfl (by kernel_rfl) (by kernel_rfl) (Xg.opx_loadn (off := 0) 2 1 [iv m1, Value.bool m2] (by kernel_rfl) rfl (by kernel_rfl) rfl (Xg.cells_at (by kernel_rfl)) (by kernel_rfl) ?_)
        refine Xg.acts (Xg.owes_cell 2 rfl (by kernel_rfl) (Xg.owes_cell 2 rfl (by kernel_rfl) (Xg.owes_cell 3 rfl (by kernel_rfl) Xg.owes_nil))) ?_
        refine Xg.any_each [10] (by kernel_rfl) rfl ⟨?_, trivial⟩
        refine Xg.comes_act rfl (by kernel_rfl) (by kernel_rfl) (Xg.opx_bs (elem := 65) 2 [Value.agg #[iv m1, Value.bool m2]] [iv m1, Value.bool m2] (by kernel_rfl) (by kernel_rfl) (by decide) rfl (by kernel_rfl) (by kernel_rfl) (by kernel_rfl) (by kernel_rfl) fun xb3 => ?_)
        refine Xg.acts (Xg.owes_cell 3 rfl (by kernel_rfl) (Xg.owes_cell 3 rfl (by kernel_rfl) (Xg.owes_cell 4 rfl (by kernel_rfl) Xg.owes_nil))) ?_
        refine Xg.any_each [11] (by kernel_rfl) rfl ⟨?_, trivial⟩
        refine Xg.comes_act rfl (by kernel_rfl) (by kernel_rfl) (Xg.opx_append_recs (elem := 65) (yv := (Value.slice (some (Addr.mk xb3 (0 : Nat) none)) (1 : Nat) (1 : Nat))) (l := (r.eraseIdx i)) 1 2 16 ((m1, m2)) rfl (by kernel_rfl) (by kernel_rfl) (by kernel_rfl) (by kernel_rfl) (fun _ hS => Xg.row_rd hS 0 rfl (by kernel_rfl)) (by kernel_rfl) (by first | omega | (simp only [List.length_nil]; omega) | (simp; omega)) (by first | omega | (simp only [List.length_nil]; omega) | (simp; omega)) fun xa1 xc1 => ?_)
        have xl1 : ((r.eraseIdx i) ++ [((m1, m2))]).length = ((r.eraseIdx i)).length + 1 := by simp
        refine Xg.acts (Xg.owes_cell 3 rfl (by kernel_rfl) (Xg.owes_skip (by kernel_rfl) (Xg.owes_skip (by kernel_rfl) Xg.owes_nil))) ?_
        refine Xg.any_pure ((pv p 0)) 12 (by kernel_rfl) rfl (by kernel_rfl) (by kernel_rfl) (by kernel_rfl) (by kernel_rfl) rfl (fun _ => by kernel_rfl) ?_
        refine Xg.any_pure ((pv p 0)) 13 (by kernel_rfl) rfl (by kernel_rfl) (by kernel_rfl) (by kernel_rfl) (by kernel_rfl) rfl (fun _ => by kernel_rfl) ?_
        refine Xg.any_each [14] (by kernel_rfl) rfl ⟨?_, trivial⟩
        refine Xg.comes_act rfl (by kernel_rfl) (by kernel_rfl) (Xg.opx_store1 (off := 0) 4 (Value.slice xa1 (r.eraseIdx i ++ [(m1, m2)]).length xc1) (by kernel_rfl) rfl (by kernel_rfl) (by kernel_rfl) (by kernel_rfl) (Nat.le_of_ble_eq_true (by kernel_rfl)) ?_)
        refine Xg.acts (Xg.owes_skip (by kernel_rfl) (Xg.owes_skip (by kernel_rfl) (Xg.owes_skip (by kernel_rfl) Xg.owes_nil))) ?_
        refine Xg.any_nil (by kernel_rfl) ?_
        rotate_left
        refine Xg.any_each [8, 10] (by kernel_rfl) rfl ⟨?_, ?_, trivial⟩
        refine Xg.comes_act rfl (by kernel_rfl) (by kernel_rfl) (Xg.opx_call1' [1] [RP ra rc (r.eraseIdx i), row xb2 (65 : Nat) [iv m1, Value.bool m2], row xb1 (29 : TypeId) [pv p 0], HdP p ra r.length rc sa s.length sc, SP sa sc s] (fun _ => by kernel_rfl) (@hd ) (by kernel_rfl) (by kernel_rfl) (by kernel_rfl) ?_)
        refine Xg.acts (Xg.owes_cell 2 rfl (by kernel_rfl) (Xg.owes_skip (by kernel_rfl) (Xg.owes_skip (by kernel_rfl) Xg.owes_nil))) ?_
        rotate_left
        refine Xg.comes_act rfl (by kernel_rfl) (by kernel_rfl) (Xg.opx_bs (elem := 65) 2 [Value.agg #[iv m1, Value.bool m2]] [iv m1, Value.bool m2] (by kernel_rfl) (by kernel_rfl) (by decide) rfl (by kernel_rfl) (by kernel_rfl) (by kernel_rfl) (by kernel_rfl) fun xb3 => ?_)
        refine Xg.acts (Xg.owes_cell 3 rfl (by kernel_rfl) (Xg.owes_cell 3 rfl (by kernel_rfl) (Xg.owes_cell 4 rfl (by kernel_rfl) Xg.owes_nil))) ?_
        rotate_left
        rotate_left
        refine Xg.any_each [10] (by kernel_rfl) rfl ⟨?_, trivial⟩
        refine Xg.comes_act rfl (by kernel_rfl) (by kernel_rfl) (Xg.opx_bs (elem := 65) 2 [Value.agg #[iv m1, Value.bool m2]] [iv m1, Value.bool m2] (by kernel_rfl) (by kernel_rfl) (by decide) rfl (by kernel_rfl) (by kernel_rfl) (by kernel_rfl) (by kernel_rfl) fun xb3 => ?_)
        refine Xg.acts (Xg.owes_cell 3 rfl (by kernel_rfl) (Xg.owes_cell 3 rfl (by kernel_rfl) (Xg.owes_cell 4 rfl (by kernel_rfl) Xg.owes_nil))) ?_
        refine Xg.any_each [11] (by kernel_rfl) rfl ⟨?_, trivial⟩
        refine Xg.comes_act rfl (by kernel_rfl) (by kernel_rfl) (Xg.opx_append_recs (elem := 65) (yv := (Value.slice (some (Addr.mk xb3 (0 : Nat) none)) (1 : Nat) (1 : Nat))) (l := (r.eraseIdx i)) 1 2 16 ((m1, m2)) rfl (by kernel_rfl) (by kernel_rfl) (by kernel_rfl) (by kernel_rfl) (fun _ hS => Xg.row_rd hS 0 rfl (by kernel_rfl)) (by kernel_rfl) (by first | omega | (simp only [List.length_nil]; omega) | (simp; omega)) (by first | omega | (simp only [List.length_nil]; omega) | (simp; omega)) fun xa1 xc1 => ?_)
        have xl1 : ((r.eraseIdx i) ++ [((m1, m2))]).length = ((r.eraseIdx i)).length + 1 := by simp
        refine Xg.acts (Xg.owes_cell 3 rfl (by kernel_rfl) (Xg.owes_skip (by kernel_rfl) (Xg.owes_skip (by kernel_rfl) Xg.owes_nil))) ?_
        refine Xg.any_pure ((pv p 0)) 12 (by kernel_rfl) rfl (by kernel_rfl) (by kernel_rfl) (by kernel_rfl) (by kernel_rfl) rfl (fun _ => by kernel_rfl) ?_
        refine Xg.any_pure ((pv p 0)) 13 (by kernel_rfl) rfl (by kernel_rfl) (by kernel_rfl) (by kernel_rfl) (by kernel_rfl) rfl (fun _ => by kernel_rfl) ?_
        refine Xg.any_each [14] (by kernel_rfl) rfl ⟨?_, trivial⟩
        refine Xg.comes_act rfl (by kernel_rfl) (by kernel_rfl) (Xg.opx_store1 (off := 0) 4 (Value.slice xa1 (r.eraseIdx i ++ [(m1, m2)]).length xc1) (by kernel_rfl) rfl (by kernel_rfl) (by kernel_rfl) (by kernel_rfl) (Nat.le_of_ble_eq_true (by kernel_rfl)) ?_)
        refine Xg.acts (Xg.owes_skip (by kernel_rfl) (Xg.owes_skip (by kernel_rfl) (Xg.owes_skip (by kernel_rfl) Xg.owes_nil))) ?_
        refine Xg.any_nil (by kernel_rfl) ?_
        rotate_left
        refine Xg.any_each [8] (by kernel_rfl) rfl ⟨?_, trivial⟩
        refine Xg.comes_act rfl (by kernel_rfl) (by kernel_rfl) (Xg.opx_call1' [2] [RP ra rc (r.eraseIdx i), row xb3 (65 : TypeId) [iv m1, Value.bool m2], row xb2 (65 : Nat) [iv m1, Value.bool m2], row xb1 (29 : TypeId) [pv p 0], HdP p ra r.length rc sa s.length sc, SP sa sc s] (fun _ => by kernel_rfl) (@hd ) (by kernel_rfl) (by kernel_rfl) (by kernel_rfl) ?_)
        refine Xg.acts (Xg.owes_cell 3 rfl (by kernel_rfl) (Xg.owes_skip (by kernel_rfl) (Xg.owes_skip (by kernel_rfl) Xg.owes_nil))) ?_
        refine Xg.any_each [11] (by kernel_rfl) rfl ⟨?_, trivial⟩
        refine Xg.comes_act rfl (by kernel_rfl) (by kernel_rfl) (Xg.opx_append_recs (elem := 65) (yv := (Value.slice (some (Addr.mk xb3 (0 : Nat) none)) (1 : Nat) (1 : Nat))) (l := (r.eraseIdx i)) 0 2 16 ((m1, m2)) rfl (by kernel_rfl) (by kernel_rfl) (by kernel_rfl) (by kernel_rfl) (fun _ hS => Xg.row_rd hS 1 rfl (by kernel_rfl)) (by kernel_rfl) (by first | omega | (simp only [List.length_nil]; omega) | (simp; omega)) (by first | omega | (simp only [List.length_nil]; omega) | (simp; omega)) fun xa1 xc1 => ?_)
        have xl1 : ((r.eraseIdx i) ++ [((m1, m2))]).length = ((r.eraseIdx i)).length + 1 := by simp
        refine Xg.acts (Xg.owes_cell 3 rfl (by kernel_rfl) (Xg.owes_skip (by kernel_rfl) (Xg.owes_skip (by kernel_rfl) Xg.owes_nil))) ?_
        refine Xg.any_pure ((pv p 0)) 12 (by kernel_rfl) rfl (by kernel_rfl) (by kernel_rfl) (by kernel_rfl) (by kernel_rfl) rfl (fun _ => by kernel_rfl) ?_
        refine Xg.any_pure ((pv p 0)) 13 (by kernel_rfl) rfl (by kernel_rfl) (by kernel_rfl) (by kernel_rfl) (by kernel_rfl) rfl (fun _ => by kernel_rfl) ?_
        refine Xg.any_each [14] (by kernel_rfl) rfl ⟨?_, trivial⟩
        refine Xg.comes_act rfl (by kernel_rfl) (by kernel_rfl) (Xg.opx_store1 (off := 0) 4 (Value.slice xa1 (r.eraseIdx i ++ [(m1, m2)]).length xc1) (by kernel_rfl) rfl (by kernel_rfl) (by kernel_rfl) (by kernel_rfl) (Nat.le_of_ble_eq_true (by kernel_rfl)) ?_)
        refine Xg.acts (Xg.owes_skip (by kernel_rfl) (Xg.owes_skip (by kernel_rfl) (Xg.owes_skip (by kernel_rfl) Xg.owes_nil))) ?_
        refine Xg.any_nil (by kernel_rfl) ?_)
      · (focus
          refine Xg.at_keep [4, 0, 3, 2, 5] (by kernel_rfl) ?_
          refine Xg.At.same (by kernel_rfl) ?_ (hk (((xa1, xc1)), fun j => ([pv p 0, iv (↑k : Int), pv xb1 0, tu, iv 0, iv 0, iv (↑i : Int), pv xb2 0, iv (↑k : Int), Value.bool (decide ((↑k : Int) < (0 : Int))), Value.bool false, iv (↑k : Int), pv p 0, pv p 0, pv p 1, Value.slice sa s.length sc, iv (↑s.length : Int), Value.bool false, Value.bool false, Value.bool false, pv p 0, pv p 0, pv p 1, Value.slice sa s.length sc, iv (↑k : Int), Value.pointer (some (Addr.mk (blk sa) k none)), iv (s.getD k (0 : Int)), Value.bool false, Value.bool false, pv p 0, pv p 0, pv p 0, Value.slice ra r.length rc, Value.func (Fn.func (27 : Nat)) #[] #[pv xb1 0], iv (↑i : Int), iv (↑i : Int), Value.bool (decide ((↑i : Int) < (0 : Int))), pv p 0, pv p 0, pv p 0, Value.slice ra r.length rc, iv (↑i : Int), Value.pointer (some (Addr.mk (blk ra) (i * (2 : Nat)) none)), Value.agg #[iv m1, Value.bool m2], pv p 0, pv p 0, pv p 0, pv p 0, Value.slice ra r.length rc, iv (↑i : Int), iv (↑i : Int), iv ((↑i : Int) + (1 : Int)), Value.slice ra (r.eraseIdx i).length rc, Value.agg #[iv m1, Value.bool m2], Value.slice (some (Addr.mk xb3 (0 : Nat) none)) (1 : Nat) (1 : Nat), Value.slice xa1 (r.eraseIdx i ++ [(m1, m2)]).length xc1, pv p 0, pv p 0, tu, tu, tu, tu, tu, tu, tu, tu, tu, tu] : List Value).getD j undef) ?_))
        · rfl
        · trivial
      · (focus
          refine Xg.at_keep [4, 1, 3, 2, 5] (by kernel_rfl) ?_
          refine Xg.At.same (by kernel_rfl) ?_ (hk (((xa1, xc1)), fun j => ([pv p 0, iv (↑k : Int), pv xb1 0, tu, iv 0, iv 0, iv (↑i : Int), pv xb2 0, iv (↑k : Int), Value.bool (decide ((↑k : Int) < (0 : Int))), Value.bool false, iv (↑k : Int), pv p 0, pv p 0, pv p 1, Value.slice sa s.length sc, iv (↑s.length : Int), Value.bool false, Value.bool false, Value.bool false, pv p 0, pv p 0, pv p 1, Value.slice sa s.length sc, iv (↑k : Int), Value.pointer (some (Addr.mk (blk sa) k none)), iv (s.getD k (0 : Int)), Value.bool false, Value.bool false, pv p 0, pv p 0, pv p 0, Value.slice ra r.length rc, Value.func (Fn.func (27 : Nat)) #[] #[pv xb1 0], iv (↑i : Int), iv (↑i : Int), Value.bool (decide ((↑i : Int) < (0 : Int))), pv p 0, pv p 0, pv p 0, Value.slice ra r.length rc, iv (↑i : Int), Value.pointer (some (Addr.mk (blk ra) (i * (2 : Nat)) none)), Value.agg #[iv m1, Value.bool m2], pv p 0, pv p 0, pv p 0, pv p 0, Value.slice ra r.length rc, iv (↑i : Int), iv (↑i : Int), iv ((↑i : Int) + (1 : Int)), Value.slice ra (r.eraseIdx i).length rc, Value.agg #[iv m1, Value.bool m2], Value.slice (some (Addr.mk xb3 (0 : Nat) none)) (1 : Nat) (1 : Nat), Value.slice xa1 (r.eraseIdx i ++ [(m1, m2)]).length xc1, pv p 0, pv p 0, tu, tu, tu, tu, tu, tu, tu, tu, tu, tu] : List Value).getD j undef) ?_))
        · rfl
        · trivial
      · (focus
          refine Xg.at_keep [4, 1, 3, 2, 5] (by kernel_rfl) ?_
          refine Xg.At.same (by kernel_rfl) ?_ (hk (((xa1, xc1)), fun j => ([pv p 0, iv (↑k : Int), pv xb1 0, tu, iv 0, iv 0, iv (↑i : Int), pv xb2 0, iv (↑k : Int), Value.bool (decide ((↑k : Int) < (0 : Int))), Value.bool false, iv (↑k : Int), pv p 0, pv p 0, pv p 1, Value.slice sa s.length sc, iv (↑s.length : Int), Value.bool false, Value.bool false, Value.bool false, pv p 0, pv p 0, pv p 1, Value.slice sa s.length sc, iv (↑k : Int), Value.pointer (some (Addr.mk (blk sa) k none)), iv (s.getD k (0 : Int)), Value.bool false, Value.bool false, pv p 0, pv p 0, pv p 0, Value.slice ra r.length rc, Value.func (Fn.func (27 : Nat)) #[] #[pv xb1 0], iv (↑i : Int), iv (↑i : Int), Value.bool (decide ((↑i : Int) < (0 : Int))), pv p 0, pv p 0, pv p 0, Value.slice ra r.length rc, iv (↑i : Int), Value.pointer (some (Addr.mk (blk ra) (i * (2 : Nat)) none)), Value.agg #[iv m1, Value.bool m2], pv p 0, pv p 0, pv p 0, pv p 0, Value.slice ra r.length rc, iv (↑i : Int), iv (↑i : Int), iv ((↑i : Int) + (1 : Int)), Value.slice ra (r.eraseIdx i).length rc, Value.agg #[iv m1, Value.bool m2], Value.slice (some (Addr.mk xb3 (0 : Nat) none)) (1 : Nat) (1 : Nat), Value.slice xa1 (r.eraseIdx i ++ [(m1, m2)]).length xc1, pv p 0, pv p 0, tu, tu, tu, tu, tu, tu, tu, tu, tu, tu] : List Value).getD j undef) ?_))
        · rfl
        · trivial
    rintro ⟨⟨xa1, xc1⟩, J⟩ _
    (focus
      refine Xg.At.same (T' := [pv p 0, iv (↑k : Int), pv xb1 0, tu, iv 0, iv 0, iv (↑i : Int), pv xb2 0, iv (↑k : Int), Value.bool (decide ((↑k : Int) < (0 : Int))), Value.bool false, iv (↑k : Int), pv p 0, pv p 0, pv p 1, Value.slice sa s.length sc, iv (↑s.length : Int), Value.bool false, Value.bool false, Value.bool false, pv p 0, pv p 0, pv p 1, Value.slice sa s.length sc, iv (↑k : Int), Value.pointer (some (Addr.mk (blk sa) k none)), iv (s.getD k (0 : Int)), Value.bool false, Value.bool false, pv p 0, pv p 0, pv p 0, Value.slice ra r.length rc, Value.func (Fn.func (27 : Nat)) #[] #[pv xb1 0], iv (↑i : Int), iv (↑i : Int), Value.bool (decide ((↑i : Int) < (0 : Int))), pv p 0, pv p 0, pv p 0, Value.slice ra r.length rc, iv (↑i : Int), Value.pointer (some (Addr.mk (blk ra) (i * (2 : Nat)) none)), Value.agg #[iv m1, Value.bool m2], J 44, J 45, J 46, J 47, J 48, J 49, J 50, J 51, J 52, J 53, J 54, J 55, J 56, J 57, tu, tu, tu, tu, tu, tu, tu, tu, tu, tu]) (L' := [HdP p ((xa1, xc1), J).fst.fst (r.eraseIdx i ++ [(m1, m2)]).length ((xa1, xc1), J).fst.snd sa s.length sc, RP ((xa1, xc1), J).fst.fst ((xa1, xc1), J).fst.snd (r.eraseIdx i ++ [(m1, m2)]), row xb1 (29 : TypeId) [pv p 0], row xb2 (65 : TypeId) [iv m1, Value.bool m2], SP sa sc s]) (by kernel_rfl) rfl ?_)
    dsimp only
    (focus
      refine Xg.at_seq ?_
      refine Xg.at_draw [8] [(0, [0, 4, 5, 6], Xg.CellIs (xb1) (((0 : Nat))) ((pv p 0))), (3, [0, 1, 2, 3, 4, 5, 6], Xg.CellIs (p) (((1 : Nat))) ((Value.slice sa s.length sc))), (6, [0, 1, 2, 3, 4, 5, 6], Xg.CellIs (xb2) (((0 : Nat))) ((iv m1))), (7, [0, 1, 2, 3, 4, 5, 6, 7], (RdIs (1 : Nat) (Value.slice sa s.length sc) s.length (List.map (Value.int IntKind.i64) s)))] (by kernel_rfl) ?_
      refine Xg.any_reads (pv p 0) 0 0 (by kernel_rfl) rfl (by kernel_rfl) (by kernel_rfl) (by kernel_rfl) (by kernel_rfl) rfl rfl (by kernel_rfl) (Xg.cell_now (b := xb1) (off := ((0 : Nat))) 2 rfl (by kernel_rfl)) (fun _ h => Xg.run_load (by kernel_rfl) (by kernel_rfl) h) ?_
      refine Xg.any_pure ((pv p 0)) 1 (by kernel_rfl) rfl (by kernel_rfl) (by kernel_rfl) (by kernel_rfl) (by kernel_rfl) rfl (fun _ => by kernel_rfl) ?_
      refine Xg.any_pure ((pv p 1)) 2 (by kernel_rfl) rfl (by kernel_rfl) (by kernel_rfl) (by kernel_rfl) (by kernel_rfl) rfl (fun _ => by kernel_rfl) ?_
      refine Xg.any_reads (Value.slice sa s.length sc) 3 1 (by kernel_rfl) rfl (by kernel_rfl) (by kernel_rfl) (by kernel_rfl) (by kernel_rfl) rfl rfl (by kernel_rfl) (Xg.cell_now (b := p) (off := ((1 : Nat))) 0 rfl (by kernel_rfl)) (fun _ h => Xg.run_load (by kernel_rfl) (by kernel_rfl) h) ?_
      refine Xg.any_pure ((iv (↑k : Int))) 4 (by kernel_rfl) rfl (by kernel_rfl) (by kernel_rfl) (by kernel_rfl) (by kernel_rfl) rfl (fun _ => by kernel_rfl) ?_
      refine Xg.any_pure ((pv xb2 0)) 5 (by kernel_rfl) rfl (by kernel_rfl) (by kernel_rfl) (by kernel_rfl) (by kernel_rfl) rfl (fun _ => by kernel_rfl) ?_
      refine Xg.any_reads (iv m1) 6 2 (by kernel_rfl) rfl (by kernel_rfl) (by kernel_rfl) (by kernel_rfl) (by kernel_rfl) rfl rfl (by kernel_rfl) (Xg.cell_now (b := xb2) (off := ((0 : Nat))) 3 rfl (by kernel_rfl)) (fun _ h => Xg.run_load (by kernel_rfl) (by kernel_rfl) h) ?_
      refine Xg.any_reads (.pointer (some (Addr.mk (Xg.blk sa) (offA sa + k) none))) 7 3 (by kernel_rfl) rfl (by kernel_rfl) (by kernel_rfl) (by kernel_rfl) (by kernel_rfl) rfl rfl (by kernel_rfl) (Xg.rd_now 4 (Xg.reads_own (E := ((3 : TypeId))) (sz := ((1 : Nat))) (n := s.length) (c := sc) (a := sa) (vs := (List.map (Value.int IntKind.i64) s))) (by kernel_rfl)) (Xg.run_ix_rd (elem := 3) (kd := .i64) (e := ((↑k : Int))) 1 k (offA sa + k) (by kernel_rfl) (by kernel_rfl) (by kernel_rfl) (by kernel_rfl) rfl (by omega) (by simp only [List.length_map]; omega) (by omega)) ?_
      refine Xg.any_each [8] (by kernel_rfl) rfl ⟨?_, trivial⟩
      refine Xg.comes_act rfl (by kernel_rfl) (by kernel_rfl) (Xg.opx_store_own_i (a := sa) (off := (offA sa + k)) (kd := .i64) (xs := s) (e := m1) 4 (by kernel_rfl) rfl (by kernel_rfl) (by kernel_rfl) (by first | omega | (simp only [List.length_set]; omega)) ?_)
      refine Xg.acts (Xg.owes_skip (by kernel_rfl) (Xg.owes_skip (by kernel_rfl) (Xg.owes_skip (by kernel_rfl) (Xg.owes_skip (by kernel_rfl) Xg.owes_nil)))) ?_
      refine Xg.any_nil (by kernel_rfl) ?_
      refine Xg.at_seq ?_
      refine Xg.at_region ?_
      refine Xg.ops_op (by kernel_rfl) (Xg.opx_pure ((pv xb2 0)) rfl (fun _ => by kernel_rfl) ?_)
      refine Xg.ops_op (by kernel_rfl) (Xg.opx_load (b := xb2) (off := ((0 : Nat))) 3 (iv m1) rfl (by kernel_rfl) (by kernel_rfl) (by kernel_rfl) ?_)
      refine Xg.ops_op (by kernel_rfl) (Xg.opx_pure ((iv m1)) rfl (fun _ => by kernel_rfl) ?_)
      refine Xg.ops_op (by kernel_rfl) (Xg.opx_pure ((iv 0)) rfl (fun _ => by kernel_rfl) ?_)
      refine Xg.ops_nil ?_
      refine Xg.at_ret_ps (v := (Value.tuple #[iv m1, iv 0])) [0, 1, 4] [HdP p xa1 (r.eraseIdx i ++ [(m1, m2)]).length xc1 sa s.length sc, RP xa1 xc1 (r.eraseIdx i ++ [(m1, m2)]), ownS (3 : TypeId) (1 : Nat) (Value.slice sa s.length sc) s.length (List.map (Value.int IntKind.i64) (s.set (offA sa + k) m1))] Go.Proofs.Try.func13 (fun _ => by kernel_rfl) (by kernel_rfl) (by kernel_rfl) ?_
      refine ⟨((xa1, xc1)), trivial, by kernel_rfl, ?_⟩)
    simp only [SP, Xg.ints, HdP, List.length_set, hoff, Nat.zero_add]

/-- .. with more than the Sched behind. -/
theorem closedE {f : FuncId} {args : List Value} {α : Type} {V : α → Value} {Q : α → List HP} {p : Nat} {r r' : List (Int × Bool)} {s s' : List Int}
    (h : ∀ ra rc sa sc, Does Try.prog f args [HdP p ra r.length rc sa s.length sc, RP ra rc r, SP sa sc s] (RetE (fun x : (Option Addr × Nat) × α => True) (fun x => V x.2) (fun x => HdP p x.1.1 r'.length x.1.2 sa s'.length sc :: RP x.1.1 x.1.2 r' :: SP sa sc s' :: Q x.2))) :
    Does Try.prog f args [SchedP p r s] (RetE (fun _ : α => True) V (fun x => SchedP p r' s' :: Q x)) := by
  constructor
  intro g F w hS
  obtain ⟨ra, rc, sa, sc, hS⟩ := sched_open hS
  intro cs
  obtain ⟨e, w', fr, ⟨v, ps, ⟨x, _, rfl, rfl⟩, rfl, h2⟩, h3⟩ := (h ra rc sa sc).run g F w hS cs
  exact ⟨_, w', fr, ⟨_, _, ⟨x.2, trivial, rfl, rfl⟩, rfl, sched_shut h2⟩, h3⟩

/-- Round: the numbers. -/
theorem round_d (p : Nat) (r : List (Int × Bool)) (s : List Int) (h64 : r.length ≤ 64) : Does Try.prog 16 [.pointer (some ⟨p, 0, none⟩)] [SchedP p r s]
    (RetE (fun x : Option Addr × Nat => True) (fun x => .slice x.1 (r.map (·.1)).length x.2) (fun x => [SchedP p r s, ints 3 .i64 x.1 x.2 (r.map (·.1))])) := by
  have e : (r.map (·.1)).length = r.length := List.length_map ..
  obtain ⟨l, hl⟩ : ∃ l, r.map (·.1) = l := ⟨_, rfl⟩
  rw [hl] at e ⊢
  refine closedE (V := fun x : Option Addr × Nat => .slice x.1 l.length x.2) (Q := fun x : Option Addr × Nat => [ints 3 .i64 x.1 x.2 l]) fun ra rc sa sc => ?_
  (focus
    refine Xg.spec_of Go.Proofs.Try.func16 rfl Go.Proofs.Try.ntmps16 fun g F => ?_)
  (focus
    refine Xg.at_seq ?_
    refine Xg.at_region ?_
    refine Xg.ops_op (by kernel_rfl) (Xg.opx_pure ((Value.slice none (0 : Nat) (0 : Nat))) rfl (fun _ => by kernel_rfl) ?_)
    refine Xg.ops_nil ?_
    refine Xg.at_seq ?_
    refine Xg.at_region ?_
    refine Xg.ops_op (by kernel_rfl) (Xg.opx_pure ((pv p 0)) rfl (fun _ => by kernel_rfl) ?_)
    refine Xg.ops_op (by kernel_rfl) (Xg.opx_pure ((pv p 0)) rfl (fun _ => by kernel_rfl) ?_)
    refine Xg.ops_op (by kernel_rfl) (Xg.opx_pure ((pv p 0)) rfl (fun _ => by kernel_rfl) ?_)
    refine Xg.ops_op (by kernel_rfl) (Xg.opx_load (b := p) (off := ((0 : Nat))) 0 (Value.slice ra r.length rc) rfl (by kernel_rfl) (by kernel_rfl) (by kernel_rfl) ?_)
    refine Xg.ops_op (by kernel_rfl) (Xg.opx_pure ((iv (↑r.length : Int))) rfl (fun _ => by kernel_rfl) ?_)
    refine Xg.ops_op (by kernel_rfl) (Xg.opx_make_hid (elem := 3) (kd := .i64) (by_ := 8) (k1 := .i64) (k2 := .i64) (n := ((↑r.length : Int))) (c := ((↑r.length : Int))) r.length r.length (by kernel_rfl) (by kernel_rfl) (by kernel_rfl) (by kernel_rfl) rfl rfl (by omega) (by omega) fun xa1 xs1 xh1 xl1 xz1 => ?_)
    refine Xg.ops_op (by kernel_rfl) (Xg.opx_pure ((Value.slice xa1 xs1.length r.length)) rfl (fun _ => by kernel_rfl) ?_)
    refine Xg.ops_nil ?_
    refine Xg.at_seq ?_
    refine Xg.at_seq ?_
    refine Xg.at_region ?_
    refine Xg.ops_op (by kernel_rfl) (Xg.opx_pure ((pv p 0)) rfl (fun _ => by kernel_rfl) ?_)
    refine Xg.ops_op (by kernel_rfl) (Xg.opx_pure ((pv p 0)) rfl (fun _ => by kernel_rfl) ?_)
    refine Xg.ops_op (by kernel_rfl) (Xg.opx_pure ((pv p 0)) rfl (fun _ => by kernel_rfl) ?_)
    refine Xg.ops_op (by kernel_rfl) (Xg.opx_load (b := p) (off := ((0 : Nat))) 1 (Value.slice ra r.length rc) rfl (by kernel_rfl) (by kernel_rfl) (by kernel_rfl) ?_)
    refine Xg.ops_op (by kernel_rfl) (Xg.opx_pure ((iv (↑r.length : Int))) rfl (fun _ => by kernel_rfl) ?_)
    refine Xg.ops_op (by kernel_rfl) (Xg.opx_pure ((iv 0)) rfl (fun _ => by kernel_rfl) ?_)
    refine Xg.ops_nil ?_
    refine Xg.at_block ?_)
  have hx1 : xs1.length = r.length := by assumption
  (focus
    refine Xg.at_keep [1, 2, 3, 0] (by kernel_rfl) ?_
    refine Xg.at_rounds_inv (α := (Nat × List Int) × (Nat → Value)) (fun x => ((fun x => x.1 ≤ r.length ∧ x.2.length = r.length ∧ ∀ j, j < x.1 → x.2.getD j 0 = l.getD j 0) : (Nat × List Int) → Prop) x.1) (fun x => ((fun x => r.length - x.1) : (Nat × List Int) → Nat) x.1) (fun x => Xg.headT [pv p 0, tu, Value.slice none (0 : Nat) (0 : Nat), Value.slice xa1 xs1.length r.length, tu, tu, pv p 0, pv p 0, pv p 0, Value.slice ra r.length rc, iv (↑r.length : Int), Value.slice xa1 xs1.length r.length, pv p 0, pv p 0, pv p 0, Value.slice ra r.length rc, iv (↑r.length : Int), iv 0, tu, tu, tu, tu, tu, tu, tu, tu, tu, tu, tu] [4, 5, 18, 19, 20, 21, 22, 23, 24, 25, 26, 27] (((fun x => [(17, .int .i64 (x.1 : Nat))]) : (Nat × List Int) → List (Nat × Go.Value)) x.1) x.2) (fun x => ((fun x => [HdP p ra r.length rc sa s.length sc, RP ra rc r, SP sa sc s, ownS 3 1 (.slice xa1 xs1.length r.length) xs1.length (x.2.map (Value.int .i64))]) : (Nat × List Int) → List Go.Sl.HP) x.1) (((0, xs1)), fun j => ([pv p 0, tu, Value.slice none (0 : Nat) (0 : Nat), Value.slice xa1 xs1.length r.length, tu, tu, pv p 0, pv p 0, pv p 0, Value.slice ra r.length rc, iv (↑r.length : Int), Value.slice xa1 xs1.length r.length, pv p 0, pv p 0, pv p 0, Value.slice ra r.length rc, iv (↑r.length : Int), iv 0, tu, tu, tu, tu, tu, tu, tu, tu, tu, tu, tu] : List Value).getD j undef) (by kernel_rfl) (by kernel_rfl) ?_ ?_)
  · exact ⟨Nat.zero_le _, hx1, fun j hj => absurd hj (Nat.not_lt_zero _)⟩
  rintro ⟨⟨i, xs⟩, J⟩ ⟨h1, h2, h3⟩ ih
  dsimp only at h1 h2 h3
  (focus
    refine Xg.At.same (T' := [pv p 0, tu, Value.slice none (0 : Nat) (0 : Nat), Value.slice xa1 xs1.length r.length, J 4, J 5, pv p 0, pv p 0, pv p 0, Value.slice ra r.length rc, iv (↑r.length : Int), Value.slice xa1 xs1.length r.length, pv p 0, pv p 0, pv p 0, Value.slice ra r.length rc, iv (↑r.length : Int), iv (↑i : Int), J 18, J 19, J 20, J 21, J 22, J 23, J 24, J 25, J 26, J 27, tu]) (L' := [HdP p ra r.length rc sa s.length sc, RP ra rc r, SP sa sc s, ownS (3 : TypeId) (1 : Nat) (Value.slice xa1 xs1.length r.length) xs1.length (List.map (Value.int IntKind.i64) ((i, xs), J).fst.snd)]) (by kernel_rfl) rfl ?_)
  by_cases hlt : i < r.length
  · refine Xg.at_off 3 rfl (by omega) fun hoff => ?_
    (focus
      refine Xg.at_seq ?_
      refine Xg.at_region ?_
      refine Xg.ops_op (by kernel_rfl) (Xg.opx_pure (.bool (decide ((((↑i : Int)) : Int) < ((↑r.length : Int))))) rfl (fun _ => by kernel_rfl) ?_)
      refine Xg.ops_nil ?_
      refine Xg.at_seq ?_
      refine Xg.at_true (t := decide (((↑i : Int) < (↑r.length : Int)))) (by kernel_rfl) (decide_eq_true (by omega)) ?_
      refine Xg.at_skip ?_
      refine Xg.at_seq ?_
      refine Xg.at_block ?_
      refine Xg.at_seq ?_
      refine Xg.at_region ?_
      refine Xg.ops_op (by kernel_rfl) (Xg.opx_pure ((iv (↑i : Int))) rfl (fun _ => by kernel_rfl) ?_)
      refine Xg.ops_op (by kernel_rfl) (Xg.opx_ix_own (elem := 65) (kd := .i64) (e := ((↑i : Int))) 1 2 i (i * (2 : Nat)) rfl (by kernel_rfl) (by kernel_rfl) (by kernel_rfl) (by kernel_rfl) rfl (by omega) (by omega) ?_)
      refine Xg.ops_op (by kernel_rfl) (Xg.opx_loadn_own (a := ra) (off := (i * (2 : Nat))) 2 1 [iv (r.getD i default).fst, Value.bool (r.getD i default).snd] (by kernel_rfl) rfl (by kernel_rfl) rfl (Xg.recs_at' (wd := 2) (fun _ => rfl) default i (by omega) (by omega) (by kernel_rfl)) (by kernel_rfl) ?_)
      refine Xg.ops_op (by kernel_rfl) (Xg.opx_new 2 [iv 0, Value.bool false] (by kernel_rfl) (by kernel_rfl) fun xb1 => ?_)
      refine Xg.ops_op (by kernel_rfl) (Xg.opx_pure ((iv (↑i : Int))) rfl (fun _ => by kernel_rfl) ?_)
      refine Xg.ops_op (by kernel_rfl) (Xg.opx_storen 2 (off := 0) 0 [iv (r.getD i default).fst, Value.bool (r.getD i default).snd] (by kernel_rfl) rfl (by kernel_rfl) (by kernel_rfl) rfl (by kernel_rfl) (Nat.le_of_ble_eq_true (by kernel_rfl)) ?_)
      refine Xg.ops_nil ?_
      refine Xg.at_region ?_
      refine Xg.ops_op (by kernel_rfl) (Xg.opx_pure ((Value.slice xa1 xs1.length r.length)) rfl (fun _ => by kernel_rfl) ?_)
      refine Xg.ops_op (by kernel_rfl) (Xg.opx_pure ((iv (↑i : Int))) rfl (fun _ => by kernel_rfl) ?_)
      refine Xg.ops_op (by kernel_rfl) (Xg.opx_pure ((pv xb1 0)) rfl (fun _ => by kernel_rfl) ?_)
      refine Xg.ops_op (by kernel_rfl) (Xg.opx_load (b := xb1) (off := ((0 : Nat))) 0 (iv (r.getD i default).fst) rfl (by kernel_rfl) (by kernel_rfl) (by kernel_rfl) ?_)
      refine Xg.ops_op (by kernel_rfl) (Xg.opx_ix_own (elem := 3) (kd := .i64) (e := ((↑i : Int))) 4 1 i i rfl (by kernel_rfl) (by kernel_rfl) (by kernel_rfl) (by kernel_rfl) rfl (by omega) (by omega) ?_)
      refine Xg.ops_op (by kernel_rfl) (Xg.opx_store_own_i (a := xa1) (off := i) (kd := .i64) (xs := (((i, xs), J).fst.snd)) (e := ((r.getD i default).fst)) 4 (by kernel_rfl) rfl (by kernel_rfl) (by kernel_rfl) (by first | omega | (simp only [List.length_set]; omega)) ?_)
      refine Xg.ops_nil ?_
      refine Xg.at_inBlock ?_
      refine Xg.at_region ?_
      refine Xg.ops_op (by kernel_rfl) (Xg.opx_int .i64 (IntKind.wrap .i64 (((↑i : Int) + (1 : Int)))) rfl (fun _ => by kernel_rfl) (Xg.wrap_i64_in (by omega)) ?_)
      refine Xg.ops_op (by kernel_rfl) (Xg.opx_pure ((iv ((↑i : Int) + (1 : Int)))) rfl (fun _ => by kernel_rfl) ?_)
      refine Xg.ops_nil ?_
      refine Xg.at_inLoop ?_)
    (focus
      refine Xg.at_keep [1, 2, 3, 4] (by kernel_rfl) ?_
      refine Xs.same ?_ (fun J9 => ih (((i + 1, xs.set i (r.getD i default).1)), J9) ?_ ?_) (by kernel_rfl))
    · rfl
    · refine ⟨by dsimp only; omega, by dsimp only; rw [List.length_set]; exact h2, fun j hj => ?_⟩
      dsimp only at hj ⊢
      by_cases hj' : j = i
      · subst hj'
        rw [← hl]
        simp [List.getD, hlt, h2]
      · rw [← h3 j (by omega)]
        simp [List.getD, List.getElem?_set, Ne.symm hj']
    · dsimp only; omega
  · have hx : xs = l := by
      apply List.ext_getElem (by omega)
      intro j g1 g2
      have := h3 j (by omega)
      simpa [List.getD, g1, g2] using this
    subst hx
    have hxl : xs1.length = xs.length := by omega
    rw [hxl]
    (focus
      refine Xg.at_seq ?_
      refine Xg.at_region ?_
      refine Xg.ops_op (by kernel_rfl) (Xg.opx_pure (.bool (decide ((((↑i : Int)) : Int) < ((↑r.length : Int))))) rfl (fun _ => by kernel_rfl) ?_)
      refine Xg.ops_nil ?_
      refine Xg.at_seq ?_
      refine Xg.at_false (t := decide (((↑i : Int) < (↑r.length : Int)))) (by kernel_rfl) (decide_eq_false (by omega)) ?_
      refine Xg.at_exit rfl ?_
      refine Xg.at_seq ?_
      refine Xg.at_region ?_
      refine Xg.ops_op (by kernel_rfl) (Xg.opx_pure ((Value.slice xa1 xs.length r.length)) rfl (fun _ => by kernel_rfl) ?_)
      refine Xg.ops_op (by kernel_rfl) (Xg.opx_pure ((Value.slice xa1 xs.length r.length)) rfl (fun _ => by kernel_rfl) ?_)
      refine Xg.ops_nil ?_
      refine Xg.at_ret_ps (v := (Value.slice xa1 xs.length r.length)) [0, 1, 2, 3] [HdP p ra r.length rc sa s.length sc, RP ra rc r, SP sa sc s, ownS (3 : TypeId) (1 : Nat) (Value.slice xa1 xs.length r.length) xs.length (List.map (Value.int IntKind.i64) xs)] Go.Proofs.Try.func16 (fun _ => by kernel_rfl) (by kernel_rfl) (by kernel_rfl) ?_
      refine ⟨(((ra, rc), xa1, r.length)), trivial, by kernel_rfl, by kernel_rfl⟩)
end Go.Proofs.Ytijjficnhpokdaa
