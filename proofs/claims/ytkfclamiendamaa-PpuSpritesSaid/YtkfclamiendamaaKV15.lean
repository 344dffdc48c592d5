/- The picture's functions: the sprite that is seen at a point. -/
import Derived.Test.YtkfclamiendamaaKV14
import Derived.Test.YtkfclamiendamaaKS
namespace Go.Proofs.Ytkfclamiendamaa
open Go.Sl Go.Xg
set_option linter.unusedVariables false
set_option linter.unusedSimpArgs false
set_option maxHeartbeats 4000000
set_option maxRecDepth 100000

/-- One sprite more is looked at. -/
def ovS (σ : Pp) (y x : Int) (b : Spr × Int) (s : Spr) : Spr × Int :=
  if x < s.column ∨ x ≥ s.column + 8 ∨ (b.2 > 0 ∧ s.column ≥ b.1.column) then b
  else if pointI σ s (y - s.row) (x - s.column) > 0 then (s, pointI σ s (y - s.row) (x - s.column)) else b
def ov0 : Spr × Int := (⟨0, 0, 0, 0⟩, 0)
def ovN (σ : Pp) (y x : Int) (l : List Spr) : Nat → Spr × Int
  | 0 => ov0
  | k + 1 => ovS σ y x (ovN σ y x l k) (l.getD k default)
def overI (σ : Pp) (y x : Int) (l : List Spr) : Spr × Int := ovN σ y x l l.length
theorem ov0_ok : Spr.Ok ⟨0, 0, 0, 0⟩ := ⟨by decide, by decide, by decide, by decide⟩

theorem pointI_now (σ : Pp) (f : Nat → Int) (s : Spr) (r c : Int) : pointI { σ with now := f } s r c = pointI σ s r c := rfl

set_option maxHeartbeats 0 in
theorem over_d (p : Nat) (σ : Pp) (hσ : σ.Wf) {A : HP} {a : Option Addr} {n c : Nat} (l : List Spr) (hln : l.length = n) (hlen : n ≤ 10) (hR : Reads A 4 (.slice a n c) n (recs sprC l)) (y x0 : Int) (hy : 0 ≤ y ∧ y ≤ 255) (hx : 0 ≤ x0 ∧ x0 ≤ 159) (hl : ∀ i, i < n → (l.getD i default).Ok ∧ (l.getD i default).row ≤ y ∧ y < (l.getD i default).row + heightI σ) :
    Does Try.prog 78 [pt p, .slice a n c, .int .i64 y, .int .i64 x0] [A, PpR p σ]
    (RetE (fun r : Spr × Int => r = overI σ y x0 l ∧ 0 ≤ r.2 ∧ r.2 ≤ 3 ∧ 0 ≤ r.1.flags ∧ r.1.flags ≤ 255) (fun r => .tuple #[.agg #[.int .i64 r.1.row, .int .i64 r.1.column, .int .i64 r.1.tile, .int .i64 r.1.flags], .int .i64 r.2]) (fun _ => [A, PpR p σ])) := by
  subst hln
  (focus
    refine Xg.spec_of Go.Proofs.Try.func78 rfl Go.Proofs.Try.ntmps78 fun g F => ?_)
  (focus
    refine Xg.at_seq ?_
    refine Xg.at_region ?_
    refine Xg.ops_op (by kernel_rfl) (Xg.opx_new 4 [iv 0, iv 0, iv 0, iv 0] (by kernel_rfl) (by kernel_rfl) fun xb1 => ?_)
    refine Xg.ops_op (by kernel_rfl) (Xg.opx_pure ((iv 0)) rfl (fun _ => by kernel_rfl) ?_)
    refine Xg.ops_nil ?_
    refine Xg.at_seq ?_
    refine Xg.at_region ?_
    refine Xg.ops_op (by kernel_rfl) (Xg.opx_new 4 [iv 0, iv 0, iv 0, iv 0] (by kernel_rfl) (by kernel_rfl) fun xb2 => ?_)
    refine Xg.ops_nil ?_
    refine Xg.at_seq ?_
    refine Xg.at_region ?_
    refine Xg.ops_op (by kernel_rfl) (Xg.opx_pure ((iv 0)) rfl (fun _ => by kernel_rfl) ?_)
    refine Xg.ops_nil ?_
    refine Xg.at_seq ?_
    refine Xg.at_seq ?_
    refine Xg.at_region ?_
    refine Xg.ops_op (by kernel_rfl) (Xg.opx_pure ((Value.slice a l.length c)) rfl (fun _ => by kernel_rfl) ?_)
    refine Xg.ops_op (by kernel_rfl) (Xg.opx_pure ((iv (↑l.length : Int))) rfl (fun _ => by kernel_rfl) ?_)
    refine Xg.ops_op (by kernel_rfl) (Xg.opx_pure ((iv 0)) rfl (fun _ => by kernel_rfl) ?_)
    refine Xg.ops_nil ?_
    refine Xg.at_block ?_)
  (focus
    refine Xg.at_rounds_inv (α := (Nat × Spr × Int) × (Nat → Value)) (fun x => ((fun x => x.1 ≤ l.length ∧ (x.2.1, x.2.2) = ovN σ y x0 l x.1 ∧ 0 ≤ x.2.2 ∧ x.2.2 ≤ 3 ∧ 0 ≤ x.2.1.flags ∧ x.2.1.flags ≤ 255 ∧ -8 ≤ x.2.1.column ∧ x.2.1.column ≤ 247) : (Nat × Spr × Int) → Prop) x.1) (fun x => ((fun x => l.length - x.1) : (Nat × Spr × Int) → Nat) x.1) (fun x => Xg.headT [pv p 0, Value.slice a l.length c, iv y, iv x0, tu, tu, tu, tu, pv xb1 0, iv 0, pv xb2 0, iv 0, tu, tu, tu, Value.slice a l.length c, iv (↑l.length : Int), iv 0, tu, tu, tu, tu, tu, tu, tu, tu, tu, tu, tu, tu, tu, tu, tu, tu, tu, tu, tu, tu, tu, tu, tu, tu, tu, tu, tu, tu, tu, tu, tu, tu, tu, tu, tu, tu, tu, tu, tu, tu, tu, tu, tu] [13, 14, 18, 19, 20, 21, 22, 23, 24, 25, 26, 27, 28, 29, 30, 31, 32, 33, 34, 35, 36, 37, 38, 39, 40, 41, 42, 43, 44, 45, 46, 47, 48, 49, 50, 51, 52, 53, 54, 55, 56, 57, 58] (((fun x => [(11, .int .i64 x.2.2), (17, .int .i64 (x.1 : Nat))]) : (Nat × Spr × Int) → List (Nat × Go.Value)) x.1) x.2) (fun x => ((fun x => [row xb2 105 [.int .i64 x.2.1.row, .int .i64 x.2.1.column, .int .i64 x.2.1.tile, .int .i64 x.2.1.flags], row xb1 105 [.int .i64 0, .int .i64 0, .int .i64 0, .int .i64 0], A, PpR p σ]) : (Nat × Spr × Int) → List Go.Sl.HP) x.1) (((0, (⟨0, 0, 0, 0⟩ : Spr), (0 : Int))), fun j => ([pv p 0, Value.slice a l.length c, iv y, iv x0, tu, tu, tu, tu, pv xb1 0, iv 0, pv xb2 0, iv 0, tu, tu, tu, Value.slice a l.length c, iv (↑l.length : Int), iv 0, tu, tu, tu, tu, tu, tu, tu, tu, tu, tu, tu, tu, tu, tu, tu, tu, tu, tu, tu, tu, tu, tu, tu, tu, tu, tu, tu, tu, tu, tu, tu, tu, tu, tu, tu, tu, tu, tu, tu, tu, tu, tu, tu] : List Value).getD j undef) (by kernel_rfl) (by kernel_rfl) ?_ ?_)
  · exact ⟨Nat.zero_le _, rfl, by dsimp only; omega, by dsimp only; omega, by dsimp only; omega, by dsimp only; omega, by dsimp only; omega, by dsimp only; omega⟩
  rintro ⟨⟨k, b, m⟩, J⟩ ⟨hk, hv, hm0, hm3, hf0, hf1, hc0, hc1⟩ ih
  dsimp only at hk hv hm0 hm3 hf0 hf1 hc0 hc1
  (focus
    refine Xg.At.same (T' := [pv p 0, Value.slice a l.length c, iv y, iv x0, tu, tu, tu, tu, pv xb1 0, iv 0, pv xb2 0, iv m, tu, J 13, J 14, Value.slice a l.length c, iv (↑l.length : Int), iv (↑k : Int), J 18, J 19, J 20, J 21, J 22, J 23, J 24, J 25, J 26, J 27, J 28, J 29, J 30, J 31, J 32, J 33, J 34, J 35, J 36, J 37, J 38, J 39, J 40, J 41, J 42, J 43, J 44, J 45, J 46, J 47, J 48, J 49, J 50, J 51, J 52, J 53, J 54, J 55, J 56, J 57, J 58, tu, tu]) (L' := [row xb2 (105 : TypeId) [iv ((k, b, m), J).fst.snd.fst.row, iv ((k, b, m), J).fst.snd.fst.column, iv ((k, b, m), J).fst.snd.fst.tile, iv ((k, b, m), J).fst.snd.fst.flags], row xb1 (105 : TypeId) [iv 0, iv 0, iv 0, iv 0], A, PpR p σ]) (by kernel_rfl) rfl ?_)
  by_cases hlt : k < l.length
  · obtain ⟨hok, hr0, hr1⟩ := hl k hlt
    have ht := hok.tile
    have hcol := hok.column
    have hrow := hok.row
    have hfl := hok.flags
    have hp := point_d p σ hσ (l.getD k default) hok (y - (l.getD k default).row) (x0 - (l.getD k default).column) (by omega)
    have hb := pointI_bd σ (l.getD k default) (y - (l.getD k default).row) (x0 - (l.getD k default).column)
    have hS : ovN σ y x0 l (k + 1) = ovS σ y x0 (b, m) (l.getD k default) := by rw [hv]; rfl
    have hkeep : (x0 < (l.getD k default).column ∨ x0 ≥ (l.getD k default).column + 8 ∨ (m > 0 ∧ (l.getD k default).column ≥ b.column)) ∨ ¬ pointI σ (l.getD k default) (y - (l.getD k default).row) (x0 - (l.getD k default).column) > 0 → (b, m) = ovN σ y x0 l (k + 1) := fun h => by
      rw [hS]
      unfold ovS
      dsimp only
      rcases h with h | h
      · rw [if_pos h]
      · rw [if_neg h]
        split <;> rfl
    have hnew : ¬ (x0 < (l.getD k default).column ∨ x0 ≥ (l.getD k default).column + 8 ∨ (m > 0 ∧ (l.getD k default).column ≥ b.column)) → pointI σ (l.getD k default) (y - (l.getD k default).row) (x0 - (l.getD k default).column) > 0 → (l.getD k default, pointI σ (l.getD k default) (y - (l.getD k default).row) (x0 - (l.getD k default).column)) = ovN σ y x0 l (k + 1) := fun h h2 => by
      rw [hS]
      unfold ovS
      dsimp only
      rw [if_neg h, if_pos h2]
    obtain ⟨P, hP⟩ : ∃ P, pointI σ (l.getD k default) (y - (l.getD k default).row) (x0 - (l.getD k default).column) = P := ⟨_, rfl⟩
    rw [hP] at hp hb hkeep hnew
    obtain ⟨s, hs⟩ : ∃ s, l.getD k default = s := ⟨_, rfl⟩
    (focus
      refine Xg.at_seq ?_
      refine Xg.at_region ?_
      refine Xg.ops_op (by kernel_rfl) (Xg.opx_pure (.bool (decide ((((↑k : Int)) : Int) < ((↑l.length : Int))))) rfl (fun _ => by kernel_rfl) ?_)
      refine Xg.ops_nil ?_
      refine Xg.at_seq ?_
      refine Xg.at_true (t := decide (((↑k : Int) < (↑l.length : Int)))) (by kernel_rfl) (decide_eq_true (by omega)) ?_
      refine Xg.at_skip ?_
      refine Xg.at_seq ?_
      refine Xg.at_block ?_
      refine Xg.at_seq ?_
      refine Xg.at_region ?_
      refine Xg.ops_op (by kernel_rfl) (Xg.opx_rd 2 (.pointer (some (Addr.mk (Xg.blk a) (offA a + k * (4 : Nat)) none))) rfl hR (by kernel_rfl) (Xg.run_ix_rd (elem := 105) (kd := .i64) (e := ((↑k : Int))) 4 k (offA a + k * (4 : Nat)) (by kernel_rfl) (by kernel_rfl) (by kernel_rfl) (by kernel_rfl) rfl (by omega) (by rw [Xg.recs_len (wd := 4) (fun _ => rfl)]; omega) (by omega)) ?_)
      refine Xg.ops_op (by kernel_rfl) (Xg.opx_rd 2 (.agg (List.toArray [iv (l.getD k default).row, iv (l.getD k default).column, iv (l.getD k default).tile, iv (l.getD k default).flags])) rfl hR (by kernel_rfl) (Xg.run_loadn_rd (off0 := (offA a + k * (4 : Nat))) 4 (k * (4 : Nat)) [iv (l.getD k default).row, iv (l.getD k default).column, iv (l.getD k default).tile, iv (l.getD k default).flags] (by kernel_rfl) (by kernel_rfl) (by omega) rfl (Xg.recs_at' (wd := 4) (fun _ => rfl) default k (by omega) (by omega) (by kernel_rfl)) (by kernel_rfl)) ?_)
      refine Xg.ops_op (by kernel_rfl) (Xg.opx_new 4 [iv 0, iv 0, iv 0, iv 0] (by kernel_rfl) (by kernel_rfl) fun xb3 => ?_)
      refine Xg.ops_op (by kernel_rfl) (Xg.opx_storen 4 (off := 0) 0 [iv (l.getD k default).row, iv (l.getD k default).column, iv (l.getD k default).tile, iv (l.getD k default).flags] (by kernel_rfl) rfl (by kernel_rfl) (by kernel_rfl) rfl (by kernel_rfl) (Nat.le_of_ble_eq_true (by kernel_rfl)) ?_)
      refine Xg.ops_nil ?_
      refine Xg.at_seq ?_
      refine Xg.at_seq ?_
      refine Xg.at_region ?_
      refine Xg.ops_op (by kernel_rfl) (Xg.opx_pure ((iv x0)) rfl (fun _ => by kernel_rfl) ?_)
      refine Xg.ops_op (by kernel_rfl) (Xg.opx_pure ((pv xb3 1)) rfl (fun _ => by kernel_rfl) ?_)
      refine Xg.ops_op (by kernel_rfl) (Xg.opx_load (b := xb3) (off := ((1 : Nat))) 0 (iv (l.getD k default).column) rfl (by kernel_rfl) (by kernel_rfl) (by kernel_rfl) ?_)
      refine Xg.ops_op (by kernel_rfl) (Xg.opx_pure (.bool (decide ((x0 : Int) < ((l.getD k default).column)))) rfl (fun _ => by kernel_rfl) ?_)
      refine Xg.ops_op (by kernel_rfl) (Xg.opx_pure ((Value.bool (decide (x0 < (l.getD k default).column)))) rfl (fun _ => by kernel_rfl) ?_)
      refine Xg.ops_flag (j := 25) (c := (decide (x0 < (l.getD k default).column))) (by kernel_rfl) (fun xh1 => ?_) (fun xh1 => ?_)
      replace xh1 : (x0 < (l.getD k default).column) := of_decide_eq_true xh1
      rotate_left
      replace xh1 : ¬ ((x0 < (l.getD k default).column)) := of_decide_eq_false xh1
      rotate_right
      refine Xg.ops_skip (by kernel_rfl) ?_
      refine Xg.ops_skip (by kernel_rfl) ?_
      refine Xg.ops_skip (by kernel_rfl) ?_
      refine Xg.ops_skip (by kernel_rfl) ?_
      refine Xg.ops_skip (by kernel_rfl) ?_
      refine Xg.ops_op (by kernel_rfl) (Xg.opx_pure ((Value.bool true)) rfl (fun _ => by kernel_rfl) ?_)
      refine Xg.ops_op (by kernel_rfl) (Xg.opx_pure ((Value.bool true)) rfl (fun _ => by kernel_rfl) ?_)
      refine Xg.ops_skip (by kernel_rfl) ?_
      refine Xg.ops_skip (by kernel_rfl) ?_
      refine Xg.ops_skip (by kernel_rfl) ?_
      refine Xg.ops_skip (by kernel_rfl) ?_
      refine Xg.ops_skip (by kernel_rfl) ?_
      refine Xg.ops_skip (by kernel_rfl) ?_
      refine Xg.ops_skip (by kernel_rfl) ?_
      refine Xg.ops_skip (by kernel_rfl) ?_
      refine Xg.ops_skip (by kernel_rfl) ?_
      refine Xg.ops_op (by kernel_rfl) (Xg.opx_pure ((Value.bool true)) rfl (fun _ => by kernel_rfl) ?_)
      refine Xg.ops_nil ?_
      refine Xg.at_true (t := true) (by kernel_rfl) rfl ?_
      refine Xg.at_exit rfl ?_
      refine Xg.at_region ?_
      refine Xg.ops_op (by kernel_rfl) (Xg.opx_int .i64 (IntKind.wrap .i64 (((↑k : Int) + (1 : Int)))) rfl (fun _ => by kernel_rfl) (Xg.wrap_i64_in (by omega)) ?_)
      refine Xg.ops_op (by kernel_rfl) (Xg.opx_pure ((iv ((↑k : Int) + (1 : Int)))) rfl (fun _ => by kernel_rfl) ?_)
      refine Xg.ops_nil ?_
      refine Xg.at_inLoop ?_
      rotate_left
      refine Xg.ops_op (by kernel_rfl) (Xg.opx_pure ((iv x0)) rfl (fun _ => by kernel_rfl) ?_)
      refine Xg.ops_op (by kernel_rfl) (Xg.opx_pure ((pv xb3 1)) rfl (fun _ => by kernel_rfl) ?_)
      refine Xg.ops_op (by kernel_rfl) (Xg.opx_load (b := xb3) (off := ((1 : Nat))) 0 (iv (l.getD k default).column) rfl (by kernel_rfl) (by kernel_rfl) (by kernel_rfl) ?_)
      refine Xg.ops_op (by kernel_rfl) (Xg.opx_int .i64 (IntKind.wrap .i64 (((l.getD k default).column + (8 : Int)))) rfl (fun _ => by kernel_rfl) (Xg.wrap_i64_in (by omega)) ?_)
      refine Xg.ops_op (by kernel_rfl) (Xg.opx_pure (.bool (decide ((x0 : Int) ≥ ((l.getD k default).column + (8 : Int))))) rfl (fun _ => by kernel_rfl) ?_)
      refine Xg.ops_flag (j := 30) (c := (decide (x0 ≥ (l.getD k default).column + (8 : Int)))) (by kernel_rfl) (fun xh2 => ?_) (fun xh2 => ?_)
      replace xh2 : (x0 ≥ (l.getD k default).column + (8 : Int)) := of_decide_eq_true xh2
      rotate_left
      replace xh2 : ¬ ((x0 ≥ (l.getD k default).column + (8 : Int))) := of_decide_eq_false xh2
      rotate_right
      refine Xg.ops_op (by kernel_rfl) (Xg.opx_pure ((Value.bool true)) rfl (fun _ => by kernel_rfl) ?_)
      refine Xg.ops_op (by kernel_rfl) (Xg.opx_pure ((Value.bool true)) rfl (fun _ => by kernel_rfl) ?_)
      refine Xg.ops_skip (by kernel_rfl) ?_
      refine Xg.ops_skip (by kernel_rfl) ?_
      refine Xg.ops_skip (by kernel_rfl) ?_
      refine Xg.ops_skip (by kernel_rfl) ?_
      refine Xg.ops_skip (by kernel_rfl) ?_
      refine Xg.ops_skip (by kernel_rfl) ?_
      refine Xg.ops_skip (by kernel_rfl) ?_
      refine Xg.ops_skip (by kernel_rfl) ?_
      refine Xg.ops_skip (by kernel_rfl) ?_
      refine Xg.ops_op (by kernel_rfl) (Xg.opx_pure ((Value.bool true)) rfl (fun _ => by kernel_rfl) ?_)
      refine Xg.ops_nil ?_
      refine Xg.at_true (t := true) (by kernel_rfl) rfl ?_
      refine Xg.at_exit rfl ?_
      refine Xg.at_region ?_
      refine Xg.ops_op (by kernel_rfl) (Xg.opx_int .i64 (IntKind.wrap .i64 (((↑k : Int) + (1 : Int)))) rfl (fun _ => by kernel_rfl) (Xg.wrap_i64_in (by omega)) ?_)
      refine Xg.ops_op (by kernel_rfl) (Xg.opx_pure ((iv ((↑k : Int) + (1 : Int)))) rfl (fun _ => by kernel_rfl) ?_)
      refine Xg.ops_nil ?_
      refine Xg.at_inLoop ?_
      rotate_left
      refine Xg.ops_op (by kernel_rfl) (Xg.opx_pure ((Value.bool false)) rfl (fun _ => by kernel_rfl) ?_)
      refine Xg.ops_op (by kernel_rfl) (Xg.opx_pure ((Value.bool false)) rfl (fun _ => by kernel_rfl) ?_)
      refine Xg.ops_op (by kernel_rfl) (Xg.opx_pure ((iv m)) rfl (fun _ => by kernel_rfl) ?_)
      refine Xg.ops_op (by kernel_rfl) (Xg.opx_pure (.bool (decide ((m : Int) > ((0 : Int))))) rfl (fun _ => by kernel_rfl) ?_)
      refine Xg.ops_op (by kernel_rfl) (Xg.opx_pure ((Value.bool (decide (m > (0 : Int))))) rfl (fun _ => by kernel_rfl) ?_)
      refine Xg.ops_flag (j := 35) (c := (decide (m > (0 : Int)))) (by kernel_rfl) (fun xh3 => ?_) (fun xh3 => ?_)
      replace xh3 : (m > (0 : Int)) := of_decide_eq_true xh3
      rotate_left
      replace xh3 : ¬ ((m > (0 : Int))) := of_decide_eq_false xh3
      rotate_right
      refine Xg.ops_op (by kernel_rfl) (Xg.opx_pure ((pv xb3 1)) rfl (fun _ => by kernel_rfl) ?_)
      refine Xg.ops_op (by kernel_rfl) (Xg.opx_load (b := xb3) (off := ((1 : Nat))) 0 (iv (l.getD k default).column) rfl (by kernel_rfl) (by kernel_rfl) (by kernel_rfl) ?_)
      refine Xg.ops_op (by kernel_rfl) (Xg.opx_pure ((pv xb2 1)) rfl (fun _ => by kernel_rfl) ?_)
      refine Xg.ops_op (by kernel_rfl) (Xg.opx_load (b := xb2) (off := ((1 : Nat))) 1 (iv b.column) rfl (by kernel_rfl) (by kernel_rfl) (by kernel_rfl) ?_)
      refine Xg.ops_op (by kernel_rfl) (Xg.opx_pure (.bool (decide ((((l.getD k default).column) : Int) ≥ b.column))) rfl (fun _ => by kernel_rfl) ?_)
      refine Xg.ops_flag (j := 40) (c := (decide ((l.getD k default).column ≥ b.column))) (by kernel_rfl) (fun xh4 => ?_) (fun xh4 => ?_)
      replace xh4 : ((l.getD k default).column ≥ b.column) := of_decide_eq_true xh4
      rotate_left
      replace xh4 : ¬ (((l.getD k default).column ≥ b.column)) := of_decide_eq_false xh4
      rotate_right
      refine Xg.ops_op (by kernel_rfl) (Xg.opx_pure ((Value.bool true)) rfl (fun _ => by kernel_rfl) ?_)
      refine Xg.ops_op (by kernel_rfl) (Xg.opx_pure ((Value.bool true)) rfl (fun _ => by kernel_rfl) ?_)
      refine Xg.ops_nil ?_
      refine Xg.at_true (t := true) (by kernel_rfl) rfl ?_
      refine Xg.at_exit rfl ?_
      refine Xg.at_region ?_
      refine Xg.ops_op (by kernel_rfl) (Xg.opx_int .i64 (IntKind.wrap .i64 (((↑k : Int) + (1 : Int)))) rfl (fun _ => by kernel_rfl) (Xg.wrap_i64_in (by omega)) ?_)
      refine Xg.ops_op (by kernel_rfl) (Xg.opx_pure ((iv ((↑k : Int) + (1 : Int)))) rfl (fun _ => by kernel_rfl) ?_)
      refine Xg.ops_nil ?_
      refine Xg.at_inLoop ?_
      rotate_left
      refine Xg.ops_op (by kernel_rfl) (Xg.opx_pure ((Value.bool false)) rfl (fun _ => by kernel_rfl) ?_)
      refine Xg.ops_op (by kernel_rfl) (Xg.opx_pure ((Value.bool false)) rfl (fun _ => by kernel_rfl) ?_)
      refine Xg.ops_nil ?_
      refine Xg.at_false (t := false) (by kernel_rfl) rfl ?_
      refine Xg.at_skip ?_
      refine Xg.at_seq ?_
      refine Xg.at_region ?_
      refine Xg.ops_op (by kernel_rfl) (Xg.opx_pure ((pv p 0)) rfl (fun _ => by kernel_rfl) ?_)
      refine Xg.ops_op (by kernel_rfl) (Xg.opx_loadn (off := 0) 4 0 [iv (l.getD k default).row, iv (l.getD k default).column, iv (l.getD k default).tile, iv (l.getD k default).flags] (by kernel_rfl) rfl (by kernel_rfl) rfl (Xg.cells_at (by kernel_rfl)) (by kernel_rfl) ?_)
      refine Xg.ops_op (by kernel_rfl) (Xg.opx_pure ((iv y)) rfl (fun _ => by kernel_rfl) ?_)
      refine Xg.ops_op (by kernel_rfl) (Xg.opx_pure ((pv xb3 0)) rfl (fun _ => by kernel_rfl) ?_)
      refine Xg.ops_op (by kernel_rfl) (Xg.opx_load (b := xb3) (off := ((0 : Nat))) 0 (iv (l.getD k default).row) rfl (by kernel_rfl) (by kernel_rfl) (by kernel_rfl) ?_)
      refine Xg.ops_op (by kernel_rfl) (Xg.opx_int .i64 (IntKind.wrap .i64 ((y - (l.getD k default).row))) rfl (fun _ => by kernel_rfl) (Xg.wrap_i64_in (by omega)) ?_)
      refine Xg.ops_op (by kernel_rfl) (Xg.opx_pure ((iv x0)) rfl (fun _ => by kernel_rfl) ?_)
      refine Xg.ops_op (by kernel_rfl) (Xg.opx_pure ((pv xb3 1)) rfl (fun _ => by kernel_rfl) ?_)
      refine Xg.ops_op (by kernel_rfl) (Xg.opx_load (b := xb3) (off := ((1 : Nat))) 0 (iv (l.getD k default).column) rfl (by kernel_rfl) (by kernel_rfl) (by kernel_rfl) ?_)
      refine Xg.ops_op (by kernel_rfl) (Xg.opx_int .i64 (IntKind.wrap .i64 ((x0 - (l.getD k default).column))) rfl (fun _ => by kernel_rfl) (Xg.wrap_i64_in (by omega)) ?_)
      refine Xg.ops_op (by kernel_rfl) (Xg.opx_call1' [4] [PpR p σ, row xb3 (105 : Nat) [iv (l.getD k default).row, iv (l.getD k default).column, iv (l.getD k default).tile, iv (l.getD k default).flags], row xb2 (105 : TypeId) [iv b.row, iv b.column, iv b.tile, iv b.flags], row xb1 (105 : TypeId) [iv 0, iv 0, iv 0, iv 0], A] (fun _ => by kernel_rfl) (@hp (by omega)) (by kernel_rfl) (by kernel_rfl) (by kernel_rfl) ?_)
      refine Xg.ops_op (by kernel_rfl) (Xg.opx_pure ((iv P)) rfl (fun _ => by kernel_rfl) ?_)
      refine Xg.ops_nil ?_
      refine Xg.at_seq ?_
      refine Xg.at_region ?_
      refine Xg.ops_op (by kernel_rfl) (Xg.opx_pure ((iv P)) rfl (fun _ => by kernel_rfl) ?_)
      refine Xg.ops_op (by kernel_rfl) (Xg.opx_pure (.bool (decide ((P : Int) > ((0 : Int))))) rfl (fun _ => by kernel_rfl) ?_)
      refine Xg.ops_nil ?_
      refine Xg.at_dec (p := (P > (0 : Int))) (by kernel_rfl) (fun xh5 => ?_) (fun xh5 => ?_)
      refine Xg.at_region ?_
      refine Xg.ops_op (by kernel_rfl) (Xg.opx_loadn (off := 0) 4 1 [iv (l.getD k default).row, iv (l.getD k default).column, iv (l.getD k default).tile, iv (l.getD k default).flags] (by kernel_rfl) rfl (by kernel_rfl) rfl (Xg.cells_at (by kernel_rfl)) (by kernel_rfl) ?_)
      refine Xg.ops_op (by kernel_rfl) (Xg.opx_pure ((iv P)) rfl (fun _ => by kernel_rfl) ?_)
      refine Xg.ops_op (by kernel_rfl) (Xg.opx_storen 4 (off := 0) 2 [iv (l.getD k default).row, iv (l.getD k default).column, iv (l.getD k default).tile, iv (l.getD k default).flags] (by kernel_rfl) rfl (by kernel_rfl) (by kernel_rfl) rfl (by kernel_rfl) (Nat.le_of_ble_eq_true (by kernel_rfl)) ?_)
      refine Xg.ops_op (by kernel_rfl) (Xg.opx_pure ((iv P)) rfl (fun _ => by kernel_rfl) ?_)
      refine Xg.ops_nil ?_
      refine Xg.at_inBlock ?_
      refine Xg.at_region ?_
      refine Xg.ops_op (by kernel_rfl) (Xg.opx_int .i64 (IntKind.wrap .i64 (((↑k : Int) + (1 : Int)))) rfl (fun _ => by kernel_rfl) (Xg.wrap_i64_in (by omega)) ?_)
      refine Xg.ops_op (by kernel_rfl) (Xg.opx_pure ((iv ((↑k : Int) + (1 : Int)))) rfl (fun _ => by kernel_rfl) ?_)
      refine Xg.ops_nil ?_
      refine Xg.at_inLoop ?_
      rotate_left
      refine Xg.at_skip ?_
      refine Xg.at_inBlock ?_
      refine Xg.at_region ?_
      refine Xg.ops_op (by kernel_rfl) (Xg.opx_int .i64 (IntKind.wrap .i64 (((↑k : Int) + (1 : Int)))) rfl (fun _ => by kernel_rfl) (Xg.wrap_i64_in (by omega)) ?_)
      refine Xg.ops_op (by kernel_rfl) (Xg.opx_pure ((iv ((↑k : Int) + (1 : Int)))) rfl (fun _ => by kernel_rfl) ?_)
      refine Xg.ops_nil ?_
      refine Xg.at_inLoop ?_
      rotate_left
      refine Xg.ops_skip (by kernel_rfl) ?_
      refine Xg.ops_skip (by kernel_rfl) ?_
      refine Xg.ops_skip (by kernel_rfl) ?_
      refine Xg.ops_skip (by kernel_rfl) ?_
      refine Xg.ops_skip (by kernel_rfl) ?_
      refine Xg.ops_op (by kernel_rfl) (Xg.opx_pure ((Value.bool false)) rfl (fun _ => by kernel_rfl) ?_)
      refine Xg.ops_op (by kernel_rfl) (Xg.opx_pure ((Value.bool false)) rfl (fun _ => by kernel_rfl) ?_)
      refine Xg.ops_nil ?_
      refine Xg.at_false (t := false) (by kernel_rfl) rfl ?_
      refine Xg.at_skip ?_
      refine Xg.at_seq ?_
      refine Xg.at_region ?_
      refine Xg.ops_op (by kernel_rfl) (Xg.opx_pure ((pv p 0)) rfl (fun _ => by kernel_rfl) ?_)
      refine Xg.ops_op (by kernel_rfl) (Xg.opx_loadn (off := 0) 4 0 [iv (l.getD k default).row, iv (l.getD k default).column, iv (l.getD k default).tile, iv (l.getD k default).flags] (by kernel_rfl) rfl (by kernel_rfl) rfl (Xg.cells_at (by kernel_rfl)) (by kernel_rfl) ?_)
      refine Xg.ops_op (by kernel_rfl) (Xg.opx_pure ((iv y)) rfl (fun _ => by kernel_rfl) ?_)
      refine Xg.ops_op (by kernel_rfl) (Xg.opx_pure ((pv xb3 0)) rfl (fun _ => by kernel_rfl) ?_)
      refine Xg.ops_op (by kernel_rfl) (Xg.opx_load (b := xb3) (off := ((0 : Nat))) 0 (iv (l.getD k default).row) rfl (by kernel_rfl) (by kernel_rfl) (by kernel_rfl) ?_)
      refine Xg.ops_op (by kernel_rfl) (Xg.opx_int .i64 (IntKind.wrap .i64 ((y - (l.getD k default).row))) rfl (fun _ => by kernel_rfl) (Xg.wrap_i64_in (by omega)) ?_)
      refine Xg.ops_op (by kernel_rfl) (Xg.opx_pure ((iv x0)) rfl (fun _ => by kernel_rfl) ?_)
      refine Xg.ops_op (by kernel_rfl) (Xg.opx_pure ((pv xb3 1)) rfl (fun _ => by kernel_rfl) ?_)
      refine Xg.ops_op (by kernel_rfl) (Xg.opx_load (b := xb3) (off := ((1 : Nat))) 0 (iv (l.getD k default).column) rfl (by kernel_rfl) (by kernel_rfl) (by kernel_rfl) ?_)
      refine Xg.ops_op (by kernel_rfl) (Xg.opx_int .i64 (IntKind.wrap .i64 ((x0 - (l.getD k default).column))) rfl (fun _ => by kernel_rfl) (Xg.wrap_i64_in (by omega)) ?_)
      refine Xg.ops_op (by kernel_rfl) (Xg.opx_call1' [4] [PpR p σ, row xb3 (105 : Nat) [iv (l.getD k default).row, iv (l.getD k default).column, iv (l.getD k default).tile, iv (l.getD k default).flags], row xb2 (105 : TypeId) [iv b.row, iv b.column, iv b.tile, iv b.flags], row xb1 (105 : TypeId) [iv 0, iv 0, iv 0, iv 0], A] (fun _ => by kernel_rfl) (@hp (by omega)) (by kernel_rfl) (by kernel_rfl) (by kernel_rfl) ?_)
      refine Xg.ops_op (by kernel_rfl) (Xg.opx_pure ((iv P)) rfl (fun _ => by kernel_rfl) ?_)
      refine Xg.ops_nil ?_
      refine Xg.at_seq ?_
      refine Xg.at_region ?_
      refine Xg.ops_op (by kernel_rfl) (Xg.opx_pure ((iv P)) rfl (fun _ => by kernel_rfl) ?_)
      refine Xg.ops_op (by kernel_rfl) (Xg.opx_pure (.bool (decide ((P : Int) > ((0 : Int))))) rfl (fun _ => by kernel_rfl) ?_)
      refine Xg.ops_nil ?_
      refine Xg.at_dec (p := (P > (0 : Int))) (by kernel_rfl) (fun xh4 => ?_) (fun xh4 => ?_)
      refine Xg.at_region ?_
      refine Xg.ops_op (by kernel_rfl) (Xg.opx_loadn (off := 0) 4 1 [iv (l.getD k default).row, iv (l.getD k default).column, iv (l.getD k default).tile, iv (l.getD k default).flags] (by kernel_rfl) rfl (by kernel_rfl) rfl (Xg.cells_at (by kernel_rfl)) (by kernel_rfl) ?_)
      refine Xg.ops_op (by kernel_rfl) (Xg.opx_pure ((iv P)) rfl (fun _ => by kernel_rfl) ?_)
      refine Xg.ops_op (by kernel_rfl) (Xg.opx_storen 4 (off := 0) 2 [iv (l.getD k default).row, iv (l.getD k default).column, iv (l.getD k default).tile, iv (l.getD k default).flags] (by kernel_rfl) rfl (by kernel_rfl) (by kernel_rfl) rfl (by kernel_rfl) (Nat.le_of_ble_eq_true (by kernel_rfl)) ?_)
      refine Xg.ops_op (by kernel_rfl) (Xg.opx_pure ((iv P)) rfl (fun _ => by kernel_rfl) ?_)
      refine Xg.ops_nil ?_
      refine Xg.at_inBlock ?_
      refine Xg.at_region ?_
      refine Xg.ops_op (by kernel_rfl) (Xg.opx_int .i64 (IntKind.wrap .i64 (((↑k : Int) + (1 : Int)))) rfl (fun _ => by kernel_rfl) (Xg.wrap_i64_in (by omega)) ?_)
      refine Xg.ops_op (by kernel_rfl) (Xg.opx_pure ((iv ((↑k : Int) + (1 : Int)))) rfl (fun _ => by kernel_rfl) ?_)
      refine Xg.ops_nil ?_
      refine Xg.at_inLoop ?_
      rotate_left
      refine Xg.at_skip ?_
      refine Xg.at_inBlock ?_
      refine Xg.at_region ?_
      refine Xg.ops_op (by kernel_rfl) (Xg.opx_int .i64 (IntKind.wrap .i64 (((↑k : Int) + (1 : Int)))) rfl (fun _ => by kernel_rfl) (Xg.wrap_i64_in (by omega)) ?_)
      refine Xg.ops_op (by kernel_rfl) (Xg.opx_pure ((iv ((↑k : Int) + (1 : Int)))) rfl (fun _ => by kernel_rfl) ?_)
      refine Xg.ops_nil ?_
      refine Xg.at_inLoop ?_)
    · (focus
        refine Xg.at_keep [2, 3, 4, 0] (by kernel_rfl) ?_
        refine Xs.same ?_ (fun J9 => ih (((k + 1, b, m)), J9) ?_ ?_) (by kernel_rfl))
      · rfl
      · exact ⟨by dsimp only; omega, hkeep (by omega), hm0, hm3, hf0, hf1, hc0, hc1⟩
      · dsimp only; omega
    · (focus
        refine Xg.at_keep [1, 2, 3, 4] (by kernel_rfl) ?_
        refine Xs.same ?_ (fun J9 => ih (((k + 1, b, m)), J9) ?_ ?_) (by kernel_rfl))
      · rfl
      · exact ⟨by dsimp only; omega, hkeep (by omega), hm0, hm3, hf0, hf1, hc0, hc1⟩
      · dsimp only; omega
    · (focus
        refine Xg.at_keep [1, 2, 3, 4] (by kernel_rfl) ?_
        refine Xs.same ?_ (fun J9 => ih (((k + 1, b, m)), J9) ?_ ?_) (by kernel_rfl))
      · rfl
      · exact ⟨by dsimp only; omega, hkeep (by omega), hm0, hm3, hf0, hf1, hc0, hc1⟩
      · dsimp only; omega
    · (focus
        refine Xg.at_keep [1, 2, 3, 4] (by kernel_rfl) ?_
        refine Xs.same ?_ (fun J9 => ih (((k + 1, b, m)), J9) ?_ ?_) (by kernel_rfl))
      · rfl
      · exact ⟨by dsimp only; omega, hkeep (by omega), hm0, hm3, hf0, hf1, hc0, hc1⟩
      · dsimp only; omega
    · (focus
        refine Xg.at_keep [2, 3, 4, 0] (by kernel_rfl) ?_
        refine Xs.same ?_ (fun J9 => ih (((k + 1, l.getD k default, P)), J9) ?_ ?_) (by kernel_rfl))
      · rfl
      · exact ⟨by dsimp only; omega, hnew (by omega) (by omega), hb.1, hb.2, hfl.1, hfl.2, hcol.1, hcol.2⟩
      · dsimp only; omega
    · (focus
        refine Xg.at_keep [2, 3, 4, 0] (by kernel_rfl) ?_
        refine Xs.same ?_ (fun J9 => ih (((k + 1, b, m)), J9) ?_ ?_) (by kernel_rfl))
      · rfl
      · exact ⟨by dsimp only; omega, hkeep (by omega), hm0, hm3, hf0, hf1, hc0, hc1⟩
      · dsimp only; omega
    · (focus
        refine Xg.at_keep [2, 3, 4, 0] (by kernel_rfl) ?_
        refine Xs.same ?_ (fun J9 => ih (((k + 1, l.getD k default, P)), J9) ?_ ?_) (by kernel_rfl))
      · rfl
      · exact ⟨by dsimp only; omega, hnew (by omega) (by omega), hb.1, hb.2, hfl.1, hfl.2, hcol.1, hcol.2⟩
      · dsimp only; omega
  · clear ih
    have hkn : k = l.length := by omega
    subst hkn
    (focus
      refine Xg.at_seq ?_
      refine Xg.at_region ?_
      refine Xg.ops_op (by kernel_rfl) (Xg.opx_pure (.bool (decide ((((↑l.length : Int)) : Int) < ((↑l.length : Int))))) rfl (fun _ => by kernel_rfl) ?_)
      refine Xg.ops_nil ?_
      refine Xg.at_seq ?_
      refine Xg.at_false (t := decide (((↑l.length : Int) < (↑l.length : Int)))) (by kernel_rfl) (decide_eq_false (by omega)) ?_
      refine Xg.at_exit rfl ?_
      refine Xg.at_seq ?_
      refine Xg.at_region ?_
      refine Xg.ops_op (by kernel_rfl) (Xg.opx_loadn (off := 0) 4 0 [iv b.row, iv b.column, iv b.tile, iv b.flags] (by kernel_rfl) rfl (by kernel_rfl) rfl (Xg.cells_at (by kernel_rfl)) (by kernel_rfl) ?_)
      refine Xg.ops_op (by kernel_rfl) (Xg.opx_pure ((iv m)) rfl (fun _ => by kernel_rfl) ?_)
      refine Xg.ops_op (by kernel_rfl) (Xg.opx_storen 4 (off := 0) 1 [iv b.row, iv b.column, iv b.tile, iv b.flags] (by kernel_rfl) rfl (by kernel_rfl) (by kernel_rfl) rfl (by kernel_rfl) (Nat.le_of_ble_eq_true (by kernel_rfl)) ?_)
      refine Xg.ops_op (by kernel_rfl) (Xg.opx_pure ((iv m)) rfl (fun _ => by kernel_rfl) ?_)
      refine Xg.ops_nil ?_
      refine Xg.at_ret_feed (v := (Value.tuple #[Value.agg #[iv b.row, iv b.column, iv b.tile, iv b.flags], iv m])) [(Addr.mk xb1 (0 : Nat) none), (Addr.mk xb1 (1 : Nat) none), (Addr.mk xb1 (2 : Nat) none), (Addr.mk xb1 (3 : Nat) none)] [iv b.row, iv b.column, iv b.tile, iv b.flags] [2, 3] [A, PpR p σ] Go.Proofs.Try.func78 (by kernel_rfl) (Xg.cells_cons (b := xb1) (off := 0) 1 rfl (by kernel_rfl) (Xg.cells_cons (b := xb1) (off := 1) 1 rfl (by kernel_rfl) (Xg.cells_cons (b := xb1) (off := 2) 1 rfl (by kernel_rfl) (Xg.cells_cons (b := xb1) (off := 3) 1 rfl (by kernel_rfl) Xg.cells_nil)))) (by kernel_rfl) (by kernel_rfl) ?_
      refine ⟨((Spr.mk b.row b.column b.tile b.flags, m)), ?_, by kernel_rfl, by kernel_rfl⟩)
    exact ⟨hv, hm0, hm3, hf0, hf1⟩

end Go.Proofs.Ytkfclamiendamaa
