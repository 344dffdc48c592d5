/- The sched package: what a Sched is; IndexFunc over its round. -/
import Derived.Test.YtijjficnhpokdaaKP1
import Derived.Test.YtijjficnhpokdaaKS
import Derived.Shelf.Abstract
namespace Go.Proofs.Ytijjficnhpokdaa
open Go.Sl Go.Xg
set_option linter.unusedVariables false
set_option linter.unusedSimpArgs false
set_option maxHeartbeats 4000000
set_option maxRecDepth 100000

abbrev mc (x : Int × Bool) : List Value := [.int .i64 x.1, .bool x.2]
abbrev RP (a : Option Addr) (c : Nat) (r : List (Int × Bool)) : HP := recsO 65 2 mc a c r
abbrev SP (a : Option Addr) (c : Nat) (s : List Int) : HP := ints 3 .i64 a c s
abbrev HdP (p : Nat) (ra : Option Addr) (rn rc : Nat) (sa : Option Addr) (sn sc : Nat) : HP := row p 62 [.slice ra rn rc, .slice sa sn sc]

theorem indexFunc_d (fn : Nat) (hE : Go.Proofs.Enters Try.prog fn) (b : Nat) (p : Int × Bool → Bool) (X1 X2 X3 : HP) (a : Option Addr) (c : Nat) (r : List (Int × Bool))
    (hf : ∀ x, Does Try.prog fn [.agg #[.int .i64 x.1, .bool x.2], .pointer (some ⟨b, 0, none⟩)] [RP a c r, X1, X2, X3] (Ret (.bool (p x)) [RP a c r, X1, X2, X3])) :
    Does Try.prog 26 [.slice a r.length c, .func (.func fn) #[] #[.pointer (some ⟨b, 0, none⟩)]] [RP a c r, X1, X2, X3] (Ret (.int .i64 (fidx p r)) [RP a c r, X1, X2, X3]) := by
  (focus
    refine Xg.spec_of Go.Proofs.Try.func26 rfl Go.Proofs.Try.ntmps26 fun g F => ?_)
  obtain ⟨n, hn⟩ : ∃ n, fidx p r = n := ⟨_, rfl⟩
  rw [hn]
  refine Xg.at_own 0 rfl fun h1 h2 _ _ => ?_
  have hm : r.length ≤ maxLen := Nat.le_trans h1 h2
  unfold maxLen at hm
  clear h1 h2
  (focus
    refine Xg.at_seq ?_
    refine Xg.at_region ?_
    refine Xg.ops_op (by kernel_rfl) (Xg.opx_pure ((iv 0)) rfl (fun _ => by kernel_rfl) ?_)
    refine Xg.ops_nil ?_
    refine Xg.at_seq ?_
    refine Xg.at_seq ?_
    refine Xg.at_region ?_
    refine Xg.ops_op (by kernel_rfl) (Xg.opx_pure ((Value.slice a r.length c)) rfl (fun _ => by kernel_rfl) ?_)
    refine Xg.ops_op (by kernel_rfl) (Xg.opx_pure ((iv (↑r.length : Int))) rfl (fun _ => by kernel_rfl) ?_)
    refine Xg.ops_op (by kernel_rfl) (Xg.opx_pure ((iv 0)) rfl (fun _ => by kernel_rfl) ?_)
    refine Xg.ops_nil ?_
    refine Xg.at_block ?_)
  (focus
    refine Xg.at_rounds_inv (α := (Nat) × (Nat → Value)) (fun x => ((fun i => i ≤ r.length ∧ ∀ j, j < i → p (r.getD j default) = false) : (Nat) → Prop) x.1) (fun x => ((fun i => r.length - i) : (Nat) → Nat) x.1) (fun x => Xg.headT [Value.slice a r.length c, Value.func (Fn.func fn) #[] #[pv b 0], tu, tu, iv 0, tu, Value.slice a r.length c, iv (↑r.length : Int), iv 0, tu, tu, tu, tu, tu, tu, tu, tu, tu, tu] [4, 5, 9, 10, 11, 12, 13, 14, 15, 16, 17, 18] (((fun i => [(8, .int .i64 (i : Nat))]) : (Nat) → List (Nat × Go.Value)) x.1) x.2) (fun x => ((fun i => [RP a c r, X1, X2, X3]) : (Nat) → List Go.Sl.HP) x.1) ((0), fun j => ([Value.slice a r.length c, Value.func (Fn.func fn) #[] #[pv b 0], tu, tu, iv 0, tu, Value.slice a r.length c, iv (↑r.length : Int), iv 0, tu, tu, tu, tu, tu, tu, tu, tu, tu, tu] : List Value).getD j undef) (by kernel_rfl) (by kernel_rfl) ?_ ?_)
  · exact ⟨Nat.zero_le _, fun j hj => absurd hj (Nat.not_lt_zero _)⟩
  rintro ⟨i, J⟩ ⟨hi, hI⟩ ih
  dsimp only at hi hI
  (focus
    refine Xg.At.same (T' := [Value.slice a r.length c, Value.func (Fn.func fn) #[] #[pv b 0], tu, tu, J 4, J 5, Value.slice a r.length c, iv (↑r.length : Int), iv (↑i : Int), J 9, J 10, J 11, J 12, J 13, J 14, J 15, J 16, J 17, J 18]) (L' := [RP a c r, X1, X2, X3]) (by kernel_rfl) rfl ?_)
  by_cases hlt : i < r.length
  · (focus
      refine Xg.at_seq ?_
      refine Xg.at_region ?_
      refine Xg.ops_op (by kernel_rfl) (Xg.opx_pure (.bool (decide ((((↑i : Int)) : Int) < ((↑r.length : Int))))) rfl (fun _ => by kernel_rfl) ?_)
      refine Xg.ops_nil ?_
      refine Xg.at_seq ?_
      refine Xg.at_true (t := decide (((↑i : Int) < (↑r.length : Int)))) (by kernel_rfl) (decide_eq_true (by omega)) ?_
      refine Xg.at_skip ?_
      refine Xg.at_seq ?_
      refine Xg.at_block ?_
      refine Xg.at_seq ?_
      refine Xg.at_region ?_
      refine Xg.ops_op (by kernel_rfl) (Xg.opx_pure ((iv (↑i : Int))) rfl (fun _ => by kernel_rfl) ?_)
      refine Xg.ops_op (by kernel_rfl) (Xg.opx_pure ((iv (↑i : Int))) rfl (fun _ => by kernel_rfl) ?_)
      refine Xg.ops_nil ?_
      refine Xg.at_seq ?_
      refine Xg.at_region ?_
      refine Xg.ops_op (by kernel_rfl) (Xg.opx_pure ((Value.func (Fn.func fn) #[] #[pv b 0])) rfl (fun _ => by kernel_rfl) ?_)
      refine Xg.ops_op (by kernel_rfl) (Xg.opx_pure ((Value.slice a r.length c)) rfl (fun _ => by kernel_rfl) ?_)
      refine Xg.ops_op (by kernel_rfl) (Xg.opx_pure ((iv (↑i : Int))) rfl (fun _ => by kernel_rfl) ?_)
      refine Xg.ops_op (by kernel_rfl) (Xg.opx_ix_own (elem := 65) (kd := .i64) (e := ((↑i : Int))) 0 2 i (i * (2 : Nat)) rfl (by kernel_rfl) (by kernel_rfl) (by kernel_rfl) (by kernel_rfl) rfl (by omega) (by omega) ?_)
      refine Xg.ops_op (by kernel_rfl) (Xg.opx_loadn_own (a := a) (off := (i * (2 : Nat))) 2 0 [iv (r.getD i default).fst, Value.bool (r.getD i default).snd] (by kernel_rfl) rfl (by kernel_rfl) rfl (Xg.recs_at' (wd := 2) (fun _ => rfl) default i (by omega) (by omega) (by kernel_rfl)) (by kernel_rfl) ?_))
    refine Xg.ops_op (by kernel_rfl) (Xg.opx_call1' (args := [.agg #[.int .i64 (r.getD i default).1, .bool (r.getD i default).2], .pointer (some ⟨b, 0, none⟩)]) [0, 1, 2, 3] [RP a c r, X1, X2, X3] (fun w => Eq.trans (b := Sem.run Try.prog (callFunc fn #[.agg #[.int .i64 (r.getD i default).1, .bool (r.getD i default).2], .pointer (some ⟨b, 0, none⟩)]) w) (by kernel_rfl) (hE _ w)) (hf (r.getD i default)) (by kernel_rfl) rfl rfl ?_)
    obtain ⟨t, ht⟩ : ∃ t, p (r.getD i default) = t := ⟨_, rfl⟩
    rw [ht]
    cases t with
    | true =>
      have := fidx_at default r i hlt hI ht
      rw [hn] at this
      subst this
      clear ih
      (focus
        refine Xg.ops_nil ?_
        refine Xg.at_true (t := true) (by kernel_rfl) rfl ?_
        refine Xg.at_seq ?_
        refine Xg.at_region ?_
        refine Xg.ops_op (by kernel_rfl) (Xg.opx_pure ((iv (↑i : Int))) rfl (fun _ => by kernel_rfl) ?_)
        refine Xg.ops_op (by kernel_rfl) (Xg.opx_pure ((iv (↑i : Int))) rfl (fun _ => by kernel_rfl) ?_)
        refine Xg.ops_nil ?_
        refine Xg.at_ret_ps (v := (iv (↑i : Int))) [0, 1, 2, 3] [RP a c r, X1, X2, X3] Go.Proofs.Try.func26 (fun _ => by kernel_rfl) (by kernel_rfl) (by kernel_rfl) ?_
        exact ⟨by kernel_rfl, by kernel_rfl⟩)
    | false =>
      (focus
        refine Xg.ops_nil ?_
        refine Xg.at_false (t := false) (by kernel_rfl) rfl ?_
        refine Xg.at_skip ?_
        refine Xg.at_inBlock ?_
        refine Xg.at_region ?_
        refine Xg.ops_op (by kernel_rfl) (Xg.opx_int .i64 (IntKind.wrap .i64 (((↑i : Int) + (1 : Int)))) rfl (fun _ => by kernel_rfl) (Xg.wrap_i64_in (by omega)) ?_)
        refine Xg.ops_op (by kernel_rfl) (Xg.opx_pure ((iv ((↑i : Int) + (1 : Int)))) rfl (fun _ => by kernel_rfl) ?_)
        refine Xg.ops_nil ?_
        refine Xg.at_inLoop ?_)
      (focus
        refine Xg.at_keep [0, 1, 2, 3] (by kernel_rfl) ?_
        refine Xs.same ?_ (fun J9 => ih (((i + 1)), J9) ?_ ?_) (by kernel_rfl))
      · rfl
      · refine ⟨by dsimp only; omega, fun j hj => ?_⟩
        by_cases hj' : j = i
        · subst hj'; exact ht
        · exact hI j (by omega)
      · dsimp only; omega
  · have := fidx_end default r (fun j hj => hI j (by omega))
    rw [hn] at this
    subst this
    clear ih
    (focus
      refine Xg.at_seq ?_
      refine Xg.at_region ?_
      refine Xg.ops_op (by kernel_rfl) (Xg.opx_pure (.bool (decide ((((↑i : Int)) : Int) < ((↑r.length : Int))))) rfl (fun _ => by kernel_rfl) ?_)
      refine Xg.ops_nil ?_
      refine Xg.at_seq ?_
      refine Xg.at_false (t := decide (((↑i : Int) < (↑r.length : Int)))) (by kernel_rfl) (decide_eq_false (by omega)) ?_
      refine Xg.at_exit rfl ?_
      refine Xg.at_seq ?_
      refine Xg.at_region ?_
      refine Xg.ops_op (by kernel_rfl) (Xg.opx_pure ((iv (-1))) rfl (fun _ => by kernel_rfl) ?_)
      refine Xg.ops_nil ?_
      refine Xg.at_ret_ps (v := (iv (-1))) [0, 1, 2, 3] [RP a c r, X1, X2, X3] Go.Proofs.Try.func26 (fun _ => by kernel_rfl) (by kernel_rfl) (by kernel_rfl) ?_
      exact ⟨by kernel_rfl, by kernel_rfl⟩)
end Go.Proofs.Ytijjficnhpokdaa
