/- The picture's functions: the sprites of a line. -/
import Derived.Test.YtkfclamiendamaaKV13
import Derived.Test.YtkfclamiendamaaKS
namespace Go.Proofs.Ytkfclamiendamaa
open Go.Sl Go.Xg
set_option linter.unusedVariables false
set_option linter.unusedSimpArgs false
set_option maxHeartbeats 4000000
set_option maxRecDepth 100000

def sprA (σ : Pp) (k : Nat) : Spr := ⟨σ.oam (4 * k) - 16, σ.oam (4 * k + 1) - 8, σ.oam (4 * k + 2), σ.oam (4 * k + 3)⟩
theorem sprA_ok {σ : Pp} (h : σ.Wf) (k : Nat) : (sprA σ k).Ok := by
  have h0 := h.oam (4 * k)
  have h1 := h.oam (4 * k + 1)
  have h2 := h.oam (4 * k + 2)
  have h3 := h.oam (4 * k + 3)
  exact ⟨by show -16 ≤ σ.oam (4 * k) - 16 ∧ σ.oam (4 * k) - 16 ≤ 239; omega, by show -8 ≤ σ.oam (4 * k + 1) - 8 ∧ σ.oam (4 * k + 1) - 8 ≤ 247; omega, h2, h3⟩
/-- The first ten of a line, among the first k. -/
def selN (σ : Pp) (y : Int) : Nat → List Spr
  | 0 => []
  | k + 1 => if (selN σ y k).length < 10 ∧ (sprA σ k).row ≤ y ∧ y < (sprA σ k).row + heightI σ then selN σ y k ++ [sprA σ k] else selN σ y k
theorem selN_len (σ : Pp) (y : Int) (k : Nat) : (selN σ y k).length ≤ 10 := by
  induction k with
  | zero => exact Nat.zero_le _
  | succ k ih =>
    unfold selN
    split
    · rename_i h; simp; omega
    · exact ih
theorem selN_full (σ : Pp) (y : Int) (k m : Nat) (h : ¬ (selN σ y k).length < 10) : selN σ y (k + m) = selN σ y k := by
  induction m with
  | zero => rfl
  | succ m ih =>
    rw [← Nat.add_assoc, selN, ih, if_neg (fun hh => h hh.1)]
def sprL (σ : Pp) (y : Int) : List Spr := if hasB (σ.regs 0) 1 = true then selN σ y 40 else []

set_option maxHeartbeats 0 in
theorem sprites_d (p : Nat) (σ : Pp) (hσ : σ.Wf) (y : Int) (hy : 0 ≤ y ∧ y ≤ 255) : Does Try.prog 75 [pt p, .int .i64 y] [PpR p σ]
    (RetE (fun _ : Option Addr × Nat => True) (fun x => .slice x.1 (sprL σ y).length x.2) (fun x => [recsO 105 4 sprC x.1 x.2 (sprL σ y), PpR p σ])) := by
  have h0 := hσ.regs 0
  have hh := heightI_bd σ
  by_cases h1 : hasB (σ.regs 0) 1 = true
  · have e : sprL σ y = selN σ y 40 := if_pos h1
    -- a name for it: unfolded it doubles forty times
    obtain ⟨R, hR⟩ : ∃ R, selN σ y 40 = R := ⟨_, rfl⟩
    rw [e, hR]
    (focus
      refine Xg.spec_of Go.Proofs.Try.func75 rfl Go.Proofs.Try.ntmps75 fun g F => ?_)
    refine Xg.at_nil_own 105 4 ?_
    (focus
      refine Xg.at_seq ?_
      refine Xg.at_region ?_
      refine Xg.ops_op (by kernel_rfl) (Xg.opx_pure ((Value.slice none (0 : Nat) (0 : Nat))) rfl (fun _ => by kernel_rfl) ?_)
      refine Xg.ops_nil ?_
      refine Xg.at_seq ?_
      refine Xg.at_region ?_
      refine Xg.ops_op (by kernel_rfl) (Xg.opx_pure ((Value.slice none (0 : Nat) (0 : Nat))) rfl (fun _ => by kernel_rfl) ?_)
      refine Xg.ops_nil ?_
      refine Xg.at_seq ?_
      refine Xg.at_seq ?_
      refine Xg.at_region ?_
      refine Xg.ops_op (by kernel_rfl) (Xg.opx_pure ((iv 0)) rfl (fun _ => by kernel_rfl) ?_)
      refine Xg.ops_nil ?_
      refine Xg.at_block ?_)
    have hh1 : Does Try.prog 74 [pt p, .int .i64 1] [PpR p σ] (Ret (.bool true) [PpR p σ]) := by
      have := has_1 p σ h0
      rwa [h1] at this
    (focus
      refine Xg.at_rounds_inv (α := (Nat × Nat × List Spr × Option Addr × Nat) × (Nat → Value)) (fun x => ((fun x => x.1 = 4 * x.2.1 ∧ x.2.1 ≤ 40 ∧ x.2.2.1 = selN σ y x.2.1 ∧ x.2.2.1.length ≤ 10) : (Nat × Nat × List Spr × Option Addr × Nat) → Prop) x.1) (fun x => ((fun x => 40 - x.2.1) : (Nat × Nat × List Spr × Option Addr × Nat) → Nat) x.1) (fun x => Xg.headT [pv p 0, iv y, tu, tu, Value.slice none (0 : Nat) (0 : Nat), Value.slice none (0 : Nat) (0 : Nat), iv 0, tu, tu, tu, tu, tu, tu, tu, tu, tu, tu, tu, tu, tu, tu, tu, tu, tu, tu, tu, tu, tu, tu, tu, tu, tu, tu, tu, tu, tu, tu, tu, tu, tu, tu, tu, tu, tu, tu, tu, tu, tu, tu, tu, tu, tu, tu, tu, tu, tu, tu, tu, tu, tu, tu, tu, tu, tu, tu, tu, tu, tu, tu, tu, tu, tu, tu] [7, 8, 9, 10, 11, 12, 13, 14, 15, 16, 17, 18, 19, 20, 21, 22, 23, 24, 25, 26, 27, 28, 29, 30, 31, 32, 33, 34, 35, 36, 37, 38, 39, 40, 41, 42, 43, 44, 45, 46, 47, 48, 49, 50, 51, 52, 53, 54, 55, 56, 57, 58, 59, 60, 61, 62, 63, 64, 65, 66, 67, 68, 69, 70, 71] (((fun x => [(5, .slice x.2.2.2.1 x.2.2.1.length x.2.2.2.2), (6, .int .i64 (x.1 : Nat))]) : (Nat × Nat × List Spr × Option Addr × Nat) → List (Nat × Go.Value)) x.1) x.2) (fun x => ((fun x => [recsO 105 4 sprC x.2.2.2.1 x.2.2.2.2 x.2.2.1, PpR p σ]) : (Nat × Nat × List Spr × Option Addr × Nat) → List Go.Sl.HP) x.1) (((0, 0, [], none, 0)), fun j => ([pv p 0, iv y, tu, tu, Value.slice none (0 : Nat) (0 : Nat), Value.slice none (0 : Nat) (0 : Nat), iv 0, tu, tu, tu, tu, tu, tu, tu, tu, tu, tu, tu, tu, tu, tu, tu, tu, tu, tu, tu, tu, tu, tu, tu, tu, tu, tu, tu, tu, tu, tu, tu, tu, tu, tu, tu, tu, tu, tu, tu, tu, tu, tu, tu, tu, tu, tu, tu, tu, tu, tu, tu, tu, tu, tu, tu, tu, tu, tu, tu, tu, tu, tu, tu, tu, tu, tu] : List Value).getD j undef) (by kernel_rfl) (by kernel_rfl) ?_ ?_)
    · exact ⟨rfl, Nat.zero_le _, rfl, Nat.zero_le _⟩
    rintro ⟨⟨n, k, l, a, c⟩, J⟩ ⟨hnk, hk, hl, hlen⟩ ih
    dsimp only at hnk hk hl hlen
    (focus
      refine Xg.At.same (T' := [pv p 0, iv y, tu, tu, Value.slice none (0 : Nat) (0 : Nat), Value.slice a l.length c, iv (↑n : Int), J 7, J 8, J 9, J 10, J 11, J 12, J 13, J 14, J 15, J 16, J 17, J 18, J 19, J 20, J 21, J 22, J 23, J 24, J 25, J 26, J 27, J 28, J 29, J 30, J 31, J 32, J 33, J 34, J 35, J 36, J 37, J 38, J 39, J 40, J 41, J 42, J 43, J 44, J 45, J 46, J 47, J 48, J 49, J 50, J 51, J 52, J 53, J 54, J 55, J 56, J 57, J 58, J 59, J 60, J 61, J 62, J 63, J 64, J 65, J 66, J 67, J 68, J 69, J 70, J 71, tu]) (L' := [recsO (105 : Nat) (4 : Nat) sprC ((n, k, l, a, c), J).fst.snd.snd.snd.fst ((n, k, l, a, c), J).fst.snd.snd.snd.snd ((n, k, l, a, c), J).fst.snd.snd.fst, PpR p σ]) (by kernel_rfl) rfl ?_)
    by_cases hlt : k < 40 ∧ l.length < 10
    · obtain ⟨hlt1, hlt2⟩ := hlt
      have o0 := hσ.oam n
      have o1 := hσ.oam (Int.toNat ((n : Int) + 1))
      have o2 := hσ.oam (Int.toNat ((n : Int) + 2))
      have o3 := hσ.oam (Int.toNat ((n : Int) + 3))
      have es : sprA σ k = ⟨σ.oam n - 16, σ.oam (Int.toNat ((n : Int) + 1)) - 8, σ.oam (Int.toNat ((n : Int) + 2)), σ.oam (Int.toNat ((n : Int) + 3))⟩ := by
        unfold sprA
        rw [show 4 * k = n from hnk.symm, show (Int.toNat ((n : Int) + 1)) = n + 1 from by omega, show (Int.toNat ((n : Int) + 2)) = n + 2 from by omega, show (Int.toNat ((n : Int) + 3)) = n + 3 from by omega]
      have er : (sprA σ k).row = σ.oam n - 16 := by rw [es]
      have hno : ¬ (σ.oam n - 16 ≤ y ∧ y < σ.oam n - 16 + heightI σ) → selN σ y (k + 1) = l := fun h => by
        rw [selN, ← hl, er, if_neg (fun hh => h hh.2)]
      have hyes : σ.oam n - 16 ≤ y ∧ y < σ.oam n - 16 + heightI σ → selN σ y (k + 1) = l ++ [sprA σ k] := fun h => by
        rw [selN, ← hl, er, if_pos ⟨hlt2, h⟩]
      (focus
        refine Xg.at_seq ?_
        refine Xg.at_seq ?_
        refine Xg.at_region ?_
        refine Xg.ops_op (by kernel_rfl) (Xg.opx_pure ((iv (↑n : Int))) rfl (fun _ => by kernel_rfl) ?_)
        refine Xg.ops_op (by kernel_rfl) (Xg.opx_pure (.bool (decide ((((↑n : Int)) : Int) < ((160 : Int))))) rfl (fun _ => by kernel_rfl) ?_)
        refine Xg.ops_op (by kernel_rfl) (Xg.opx_pure ((Value.bool (decide ((↑n : Int) < (160 : Int))))) rfl (fun _ => by kernel_rfl) ?_)
        refine Xg.ops_flag (j := 10) (c := (decide ((↑n : Int) < (160 : Int)))) (by kernel_rfl) (fun _ => ?_) (fun xh1 => absurd (of_decide_eq_false xh1) (by omega))
        refine Xg.ops_op (by kernel_rfl) (Xg.opx_pure ((Value.slice a l.length c)) rfl (fun _ => by kernel_rfl) ?_)
        refine Xg.ops_op (by kernel_rfl) (Xg.opx_pure ((iv (↑l.length : Int))) rfl (fun _ => by kernel_rfl) ?_)
        refine Xg.ops_op (by kernel_rfl) (Xg.opx_pure (.bool (decide ((((↑l.length : Int)) : Int) < ((10 : Int))))) rfl (fun _ => by kernel_rfl) ?_)
        refine Xg.ops_flag (j := 13) (c := (decide ((↑l.length : Int) < (10 : Int)))) (by kernel_rfl) (fun _ => ?_) (fun xh1 => absurd (of_decide_eq_false xh1) (by omega))
        refine Xg.ops_op (by kernel_rfl) (Xg.opx_pure ((Value.bool true)) rfl (fun _ => by kernel_rfl) ?_)
        refine Xg.ops_op (by kernel_rfl) (Xg.opx_pure ((Value.bool true)) rfl (fun _ => by kernel_rfl) ?_)
        refine Xg.ops_op (by kernel_rfl) (Xg.opx_pure ((pv p 0)) rfl (fun _ => by kernel_rfl) ?_)
        refine Xg.ops_op (by kernel_rfl) (Xg.opx_call1' [1] [PpR p σ, recsO (105 : Nat) (4 : Nat) sprC a c l] (fun _ => by kernel_rfl) (@hh1 ) (by kernel_rfl) (by kernel_rfl) (by kernel_rfl) ?_)
        refine Xg.ops_op (by kernel_rfl) (Xg.opx_pure ((Value.bool true)) rfl (fun _ => by kernel_rfl) ?_)
        refine Xg.ops_nil ?_
        refine Xg.at_true (t := true) (by kernel_rfl) rfl ?_
        refine Xg.at_skip ?_
        refine Xg.at_seq ?_
        refine Xg.at_block ?_
        refine Xg.at_seq ?_
        refine Xg.at_draw [34, 35] [(5, [0, 1, 2, 3, 4, 5, 8, 9, 10, 11, 12, 13, 14, 15, 16, 17, 18, 19, 20, 21, 22, 23, 24, 25, 26, 27, 28, 29, 30, 31, 32, 34], Xg.CellIs (p) (((8204 : Nat) + n)) ((uv (σ.oam n)))), (14, [0, 1, 2, 3, 4, 5, 6, 7, 8, 9, 10, 11, 12, 13, 14, 17, 18, 19, 20, 21, 22, 23, 24, 25, 26, 27, 28, 29, 30, 31, 32, 34], Xg.CellIs (p) (((8204 : Nat) + ((↑n : Int) + (1 : Int)).toNat)) ((uv (σ.oam ((↑n : Int) + (1 : Int)).toNat)))), (23, [0, 1, 2, 3, 4, 5, 6, 7, 8, 9, 10, 11, 12, 13, 14, 15, 16, 17, 18, 19, 20, 21, 22, 23, 25, 26, 27, 28, 29, 30, 31, 32, 34], Xg.CellIs (p) (((8204 : Nat) + ((↑n : Int) + (2 : Int)).toNat)) ((uv (σ.oam ((↑n : Int) + (2 : Int)).toNat)))), (31, [0, 1, 2, 3, 4, 5, 6, 7, 8, 9, 10, 11, 12, 13, 14, 15, 16, 17, 18, 19, 20, 21, 22, 23, 24, 25, 26, 27, 28, 29, 30, 31, 34], Xg.CellIs (p) (((8204 : Nat) + ((↑n : Int) + (3 : Int)).toNat)) ((uv (σ.oam ((↑n : Int) + (3 : Int)).toNat))))] (by kernel_rfl) ?_
        refine Xg.any_pure ((pv p 0)) 0 (by kernel_rfl) rfl (by kernel_rfl) (by kernel_rfl) (by kernel_rfl) (by kernel_rfl) rfl (fun _ => by kernel_rfl) ?_
        refine Xg.any_pure ((iv (↑n : Int))) 1 (by kernel_rfl) rfl (by kernel_rfl) (by kernel_rfl) (by kernel_rfl) (by kernel_rfl) rfl (fun _ => by kernel_rfl) ?_
        refine Xg.any_pure ((pv p 0)) 2 (by kernel_rfl) rfl (by kernel_rfl) (by kernel_rfl) (by kernel_rfl) (by kernel_rfl) rfl (fun _ => by kernel_rfl) ?_
        refine Xg.any_pure ((pv p 8204)) 3 (by kernel_rfl) rfl (by kernel_rfl) (by kernel_rfl) (by kernel_rfl) (by kernel_rfl) rfl (fun _ => by kernel_rfl) ?_
        refine Xg.any_pure (.pointer (some (Addr.mk p ((8204 : Nat) + n) none))) 4 (by kernel_rfl) rfl (by kernel_rfl) (by kernel_rfl) (by kernel_rfl) (by kernel_rfl) rfl (Xg.run_ix_array' (elem := 5) (len := 160) (b := p) (off := ((8204 : Nat))) (kd := .i64) (e := ((↑n : Int))) 1 n ((8204 : Nat) + n) (by kernel_rfl) (by kernel_rfl) (by kernel_rfl) (by kernel_rfl) rfl (by omega) (by omega)) ?_
        refine Xg.any_reads (uv (σ.oam n)) 5 0 (by kernel_rfl) rfl (by kernel_rfl) (by kernel_rfl) (by kernel_rfl) (by kernel_rfl) rfl rfl (by kernel_rfl) (Xg.cell_now (b := p) (off := ((8204 : Nat) + n)) 0 rfl (@Go.Proofs.Ytkfclamiendamaa.g_oam (σ) (n) (by omega))) (fun _ h => Xg.run_load (by kernel_rfl) (by kernel_rfl) h) ?_
        refine Xg.any_int .i64 (IntKind.wrap .i64 ((σ.oam n))) 6 (by kernel_rfl) rfl (by kernel_rfl) (by kernel_rfl) (by kernel_rfl) (by kernel_rfl) rfl (fun _ => by kernel_rfl) (Xg.wrap_i64_in (by omega)) ?_
        refine Xg.any_int .i64 (IntKind.wrap .i64 ((σ.oam n - (16 : Int)))) 7 (by kernel_rfl) rfl (by kernel_rfl) (by kernel_rfl) (by kernel_rfl) (by kernel_rfl) rfl (fun _ => by kernel_rfl) (Xg.wrap_i64_in (by omega)) ?_
        refine Xg.any_pure ((pv p 0)) 8 (by kernel_rfl) rfl (by kernel_rfl) (by kernel_rfl) (by kernel_rfl) (by kernel_rfl) rfl (fun _ => by kernel_rfl) ?_
        refine Xg.any_pure ((iv (↑n : Int))) 9 (by kernel_rfl) rfl (by kernel_rfl) (by kernel_rfl) (by kernel_rfl) (by kernel_rfl) rfl (fun _ => by kernel_rfl) ?_
        refine Xg.any_int .i64 (IntKind.wrap .i64 (((↑n : Int) + (1 : Int)))) 10 (by kernel_rfl) rfl (by kernel_rfl) (by kernel_rfl) (by kernel_rfl) (by kernel_rfl) rfl (fun _ => by kernel_rfl) (Xg.wrap_i64_in (by omega)) ?_
        refine Xg.any_pure ((pv p 0)) 11 (by kernel_rfl) rfl (by kernel_rfl) (by kernel_rfl) (by kernel_rfl) (by kernel_rfl) rfl (fun _ => by kernel_rfl) ?_
        refine Xg.any_pure ((pv p 8204)) 12 (by kernel_rfl) rfl (by kernel_rfl) (by kernel_rfl) (by kernel_rfl) (by kernel_rfl) rfl (fun _ => by kernel_rfl) ?_
        refine Xg.any_pure (.pointer (some (Addr.mk p ((8204 : Nat) + ((↑n : Int) + (1 : Int)).toNat) none))) 13 (by kernel_rfl) rfl (by kernel_rfl) (by kernel_rfl) (by kernel_rfl) (by kernel_rfl) rfl (Xg.run_ix_array' (elem := 5) (len := 160) (b := p) (off := ((8204 : Nat))) (kd := .i64) (e := ((↑n : Int) + (1 : Int))) 1 (((↑n : Int) + (1 : Int)).toNat) ((8204 : Nat) + ((↑n : Int) + (1 : Int)).toNat) (by kernel_rfl) (by kernel_rfl) (by kernel_rfl) (by kernel_rfl) (by omega) (by omega) (by omega)) ?_
        refine Xg.any_reads (uv (σ.oam ((↑n : Int) + (1 : Int)).toNat)) 14 1 (by kernel_rfl) rfl (by kernel_rfl) (by kernel_rfl) (by kernel_rfl) (by kernel_rfl) rfl rfl (by kernel_rfl) (Xg.cell_now (b := p) (off := ((8204 : Nat) + ((↑n : Int) + (1 : Int)).toNat)) 0 rfl (@Go.Proofs.Ytkfclamiendamaa.g_oam (σ) ((((↑n : Int) + (1 : Int)).toNat)) (by omega))) (fun _ h => Xg.run_load (by kernel_rfl) (by kernel_rfl) h) ?_
        refine Xg.any_int .i64 (IntKind.wrap .i64 ((σ.oam ((↑n : Int) + (1 : Int)).toNat))) 15 (by kernel_rfl) rfl (by kernel_rfl) (by kernel_rfl) (by kernel_rfl) (by kernel_rfl) rfl (fun _ => by kernel_rfl) (Xg.wrap_i64_in (by omega)) ?_
        refine Xg.any_int .i64 (IntKind.wrap .i64 ((σ.oam ((↑n : Int) + (1 : Int)).toNat - (8 : Int)))) 16 (by kernel_rfl) rfl (by kernel_rfl) (by kernel_rfl) (by kernel_rfl) (by kernel_rfl) rfl (fun _ => by kernel_rfl) (Xg.wrap_i64_in (by omega)) ?_
        refine Xg.any_pure ((pv p 0)) 17 (by kernel_rfl) rfl (by kernel_rfl) (by kernel_rfl) (by kernel_rfl) (by kernel_rfl) rfl (fun _ => by kernel_rfl) ?_
        refine Xg.any_pure ((iv (↑n : Int))) 18 (by kernel_rfl) rfl (by kernel_rfl) (by kernel_rfl) (by kernel_rfl) (by kernel_rfl) rfl (fun _ => by kernel_rfl) ?_
        refine Xg.any_int .i64 (IntKind.wrap .i64 (((↑n : Int) + (2 : Int)))) 19 (by kernel_rfl) rfl (by kernel_rfl) (by kernel_rfl) (by kernel_rfl) (by kernel_rfl) rfl (fun _ => by kernel_rfl) (Xg.wrap_i64_in (by omega)) ?_
        refine Xg.any_pure ((pv p 0)) 20 (by kernel_rfl) rfl (by kernel_rfl) (by kernel_rfl) (by kernel_rfl) (by kernel_rfl) rfl (fun _ => by kernel_rfl) ?_
        refine Xg.any_pure ((pv p 8204)) 21 (by kernel_rfl) rfl (by kernel_rfl) (by kernel_rfl) (by kernel_rfl) (by kernel_rfl) rfl (fun _ => by kernel_rfl) ?_
        refine Xg.any_pure (.pointer (some (Addr.mk p ((8204 : Nat) + ((↑n : Int) + (2 : Int)).toNat) none))) 22 (by kernel_rfl) rfl (by kernel_rfl) (by kernel_rfl) (by kernel_rfl) (by kernel_rfl) rfl (Xg.run_ix_array' (elem := 5) (len := 160) (b := p) (off := ((8204 : Nat))) (kd := .i64) (e := ((↑n : Int) + (2 : Int))) 1 (((↑n : Int) + (2 : Int)).toNat) ((8204 : Nat) + ((↑n : Int) + (2 : Int)).toNat) (by kernel_rfl) (by kernel_rfl) (by kernel_rfl) (by kernel_rfl) (by omega) (by omega) (by omega)) ?_
        refine Xg.any_reads (uv (σ.oam ((↑n : Int) + (2 : Int)).toNat)) 23 2 (by kernel_rfl) rfl (by kernel_rfl) (by kernel_rfl) (by kernel_rfl) (by kernel_rfl) rfl rfl (by kernel_rfl) (Xg.cell_now (b := p) (off := ((8204 : Nat) + ((↑n : Int) + (2 : Int)).toNat)) 0 rfl (@Go.Proofs.Ytkfclamiendamaa.g_oam (σ) ((((↑n : Int) + (2 : Int)).toNat)) (by omega))) (fun _ h => Xg.run_load (by kernel_rfl) (by kernel_rfl) h) ?_
        refine Xg.any_int .i64 (IntKind.wrap .i64 ((σ.oam ((↑n : Int) + (2 : Int)).toNat))) 24 (by kernel_rfl) rfl (by kernel_rfl) (by kernel_rfl) (by kernel_rfl) (by kernel_rfl) rfl (fun _ => by kernel_rfl) (Xg.wrap_i64_in (by omega)) ?_
        refine Xg.any_pure ((pv p 0)) 25 (by kernel_rfl) rfl (by kernel_rfl) (by kernel_rfl) (by kernel_rfl) (by kernel_rfl) rfl (fun _ => by kernel_rfl) ?_
        refine Xg.any_pure ((iv (↑n : Int))) 26 (by kernel_rfl) rfl (by kernel_rfl) (by kernel_rfl) (by kernel_rfl) (by kernel_rfl) rfl (fun _ => by kernel_rfl) ?_
        refine Xg.any_int .i64 (IntKind.wrap .i64 (((↑n : Int) + (3 : Int)))) 27 (by kernel_rfl) rfl (by kernel_rfl) (by kernel_rfl) (by kernel_rfl) (by kernel_rfl) rfl (fun _ => by kernel_rfl) (Xg.wrap_i64_in (by omega)) ?_
        refine Xg.any_pure ((pv p 0)) 28 (by kernel_rfl) rfl (by kernel_rfl) (by kernel_rfl) (by kernel_rfl) (by kernel_rfl) rfl (fun _ => by kernel_rfl) ?_
        refine Xg.any_pure ((pv p 8204)) 29 (by kernel_rfl) rfl (by kernel_rfl) (by kernel_rfl) (by kernel_rfl) (by kernel_rfl) rfl (fun _ => by kernel_rfl) ?_
        refine Xg.any_pure (.pointer (some (Addr.mk p ((8204 : Nat) + ((↑n : Int) + (3 : Int)).toNat) none))) 30 (by kernel_rfl) rfl (by kernel_rfl) (by kernel_rfl) (by kernel_rfl) (by kernel_rfl) rfl (Xg.run_ix_array' (elem := 5) (len := 160) (b := p) (off := ((8204 : Nat))) (kd := .i64) (e := ((↑n : Int) + (3 : Int))) 1 (((↑n : Int) + (3 : Int)).toNat) ((8204 : Nat) + ((↑n : Int) + (3 : Int)).toNat) (by kernel_rfl) (by kernel_rfl) (by kernel_rfl) (by kernel_rfl) (by omega) (by omega) (by omega)) ?_
        refine Xg.any_reads (uv (σ.oam ((↑n : Int) + (3 : Int)).toNat)) 31 3 (by kernel_rfl) rfl (by kernel_rfl) (by kernel_rfl) (by kernel_rfl) (by kernel_rfl) rfl rfl (by kernel_rfl) (Xg.cell_now (b := p) (off := ((8204 : Nat) + ((↑n : Int) + (3 : Int)).toNat)) 0 rfl (@Go.Proofs.Ytkfclamiendamaa.g_oam (σ) ((((↑n : Int) + (3 : Int)).toNat)) (by omega))) (fun _ h => Xg.run_load (by kernel_rfl) (by kernel_rfl) h) ?_
        refine Xg.any_int .i64 (IntKind.wrap .i64 ((σ.oam ((↑n : Int) + (3 : Int)).toNat))) 32 (by kernel_rfl) rfl (by kernel_rfl) (by kernel_rfl) (by kernel_rfl) (by kernel_rfl) rfl (fun _ => by kernel_rfl) (Xg.wrap_i64_in (by omega)) ?_
        refine Xg.any_pure ((Value.agg #[iv (σ.oam n - (16 : Int)), iv (σ.oam ((↑n : Int) + (1 : Int)).toNat - (8 : Int)), iv (σ.oam ((↑n : Int) + (2 : Int)).toNat), iv (σ.oam ((↑n : Int) + (3 : Int)).toNat)])) 33 (by kernel_rfl) rfl (by kernel_rfl) (by kernel_rfl) (by kernel_rfl) (by kernel_rfl) rfl (fun _ => by kernel_rfl) ?_
        refine Xg.any_each [34] (by kernel_rfl) rfl ⟨?_, trivial⟩
        refine Xg.comes_act rfl (by kernel_rfl) (by kernel_rfl) (Xg.opx_new 4 [iv 0, iv 0, iv 0, iv 0] (by kernel_rfl) (by kernel_rfl) fun xb1 => ?_)
        refine Xg.acts (Xg.owes_cell 1 rfl (@Go.Proofs.Ytkfclamiendamaa.g_oam (σ) (n) (by omega)) (Xg.owes_cell 1 rfl (@Go.Proofs.Ytkfclamiendamaa.g_oam (σ) ((((↑n : Int) + (1 : Int)).toNat)) (by omega)) (Xg.owes_cell 1 rfl (@Go.Proofs.Ytkfclamiendamaa.g_oam (σ) ((((↑n : Int) + (2 : Int)).toNat)) (by omega)) (Xg.owes_cell 1 rfl (@Go.Proofs.Ytkfclamiendamaa.g_oam (σ) ((((↑n : Int) + (3 : Int)).toNat)) (by omega)) Xg.owes_nil)))) ?_
        refine Xg.any_each [35] (by kernel_rfl) rfl ⟨?_, trivial⟩
        refine Xg.comes_act rfl (by kernel_rfl) (by kernel_rfl) (Xg.opx_storen 4 (off := 0) 0 [iv (σ.oam n - (16 : Int)), iv (σ.oam ((↑n : Int) + (1 : Int)).toNat - (8 : Int)), iv (σ.oam ((↑n : Int) + (2 : Int)).toNat), iv (σ.oam ((↑n : Int) + (3 : Int)).toNat)] (by kernel_rfl) rfl (by kernel_rfl) (by kernel_rfl) rfl (by kernel_rfl) (Nat.le_of_ble_eq_true (by kernel_rfl)) ?_)
        refine Xg.acts (Xg.owes_skip (by kernel_rfl) (Xg.owes_skip (by kernel_rfl) (Xg.owes_skip (by kernel_rfl) (Xg.owes_skip (by kernel_rfl) Xg.owes_nil)))) ?_
        refine Xg.any_nil (by kernel_rfl) ?_
        refine Xg.at_seq ?_
        refine Xg.at_draw [9] [(2, [0, 1, 2], Xg.CellIs (xb1) (((0 : Nat))) ((iv (σ.oam n - (16 : Int))))), (7, [0, 1, 2, 3, 4, 5, 6, 7, 8, 9], Xg.CellIs (xb1) (((0 : Nat))) ((iv (σ.oam n - (16 : Int)))))] (by kernel_rfl) ?_
        refine Xg.any_pure ((iv y)) 0 (by kernel_rfl) rfl (by kernel_rfl) (by kernel_rfl) (by kernel_rfl) (by kernel_rfl) rfl (fun _ => by kernel_rfl) ?_
        refine Xg.any_pure ((pv xb1 0)) 1 (by kernel_rfl) rfl (by kernel_rfl) (by kernel_rfl) (by kernel_rfl) (by kernel_rfl) rfl (fun _ => by kernel_rfl) ?_
        refine Xg.any_reads (iv (σ.oam n - (16 : Int))) 2 0 (by kernel_rfl) rfl (by kernel_rfl) (by kernel_rfl) (by kernel_rfl) (by kernel_rfl) rfl rfl (by kernel_rfl) (Xg.cell_now (b := xb1) (off := ((0 : Nat))) 0 rfl (by kernel_rfl)) (fun _ h => Xg.run_load (by kernel_rfl) (by kernel_rfl) h) ?_
        refine Xg.any_pure (.bool (decide ((y : Int) ≥ (σ.oam n - (16 : Int))))) 3 (by kernel_rfl) rfl (by kernel_rfl) (by kernel_rfl) (by kernel_rfl) (by kernel_rfl) rfl (fun _ => by kernel_rfl) ?_
        refine Xg.any_pure ((Value.bool (decide (y ≥ σ.oam n - (16 : Int))))) 4 (by kernel_rfl) rfl (by kernel_rfl) (by kernel_rfl) (by kernel_rfl) (by kernel_rfl) rfl (fun _ => by kernel_rfl) ?_
        refine Xg.any_flag (j := 59) (c := (decide (y ≥ σ.oam n - (16 : Int)))) (by kernel_rfl) (fun xh1 => ?_) (fun xh1 => ?_)
        replace xh1 : (y ≥ σ.oam n - (16 : Int)) := of_decide_eq_true xh1
        rotate_left
        replace xh1 : ¬ ((y ≥ σ.oam n - (16 : Int))) := of_decide_eq_false xh1
        rotate_right
        refine Xg.any_pure ((iv y)) 5 (by kernel_rfl) rfl (by kernel_rfl) (by kernel_rfl) (by kernel_rfl) (by kernel_rfl) rfl (fun _ => by kernel_rfl) ?_
        refine Xg.any_pure ((pv xb1 0)) 6 (by kernel_rfl) rfl (by kernel_rfl) (by kernel_rfl) (by kernel_rfl) (by kernel_rfl) rfl (fun _ => by kernel_rfl) ?_
        refine Xg.any_reads (iv (σ.oam n - (16 : Int))) 7 1 (by kernel_rfl) rfl (by kernel_rfl) (by kernel_rfl) (by kernel_rfl) (by kernel_rfl) rfl rfl (by kernel_rfl) (Xg.cell_now (b := xb1) (off := ((0 : Nat))) 0 rfl (by kernel_rfl)) (fun _ h => Xg.run_load (by kernel_rfl) (by kernel_rfl) h) ?_
        refine Xg.any_pure ((pv p 0)) 8 (by kernel_rfl) rfl (by kernel_rfl) (by kernel_rfl) (by kernel_rfl) (by kernel_rfl) rfl (fun _ => by kernel_rfl) ?_
        refine Xg.any_each [9] (by kernel_rfl) rfl ⟨?_, trivial⟩
        refine Xg.comes_act rfl (by kernel_rfl) (by kernel_rfl) (Xg.opx_call1' [1] [PpR p σ, row xb1 (105 : Nat) [iv (σ.oam n - (16 : Int)), iv (σ.oam ((↑n : Int) + (1 : Int)).toNat - (8 : Int)), iv (σ.oam ((↑n : Int) + (2 : Int)).toNat), iv (σ.oam ((↑n : Int) + (3 : Int)).toNat)], recsO (105 : Nat) (4 : Nat) sprC a c l] (fun _ => by kernel_rfl) (@Go.Proofs.Ytkfclamiendamaa.height_d (p) (σ) (by omega)) (by kernel_rfl) (by kernel_rfl) (by kernel_rfl) ?_)
        refine Xg.acts (Xg.owes_skip (by kernel_rfl) (Xg.owes_cell 1 rfl (by kernel_rfl) Xg.owes_nil)) ?_
        refine Xg.any_int .i64 (IntKind.wrap .i64 ((σ.oam n - (16 : Int) + heightI σ))) 10 (by kernel_rfl) rfl (by kernel_rfl) (by kernel_rfl) (by kernel_rfl) (by kernel_rfl) rfl (fun _ => by kernel_rfl) (Xg.wrap_i64_in (by omega)) ?_
        refine Xg.any_pure (.bool (decide ((y : Int) < (σ.oam n - (16 : Int) + heightI σ)))) 11 (by kernel_rfl) rfl (by kernel_rfl) (by kernel_rfl) (by kernel_rfl) (by kernel_rfl) rfl (fun _ => by kernel_rfl) ?_
        refine Xg.any_flag (j := 66) (c := (decide (y < σ.oam n - (16 : Int) + heightI σ))) (by kernel_rfl) (fun xh2 => ?_) (fun xh2 => ?_)
        replace xh2 : (y < σ.oam n - (16 : Int) + heightI σ) := of_decide_eq_true xh2
        rotate_left
        replace xh2 : ¬ ((y < σ.oam n - (16 : Int) + heightI σ)) := of_decide_eq_false xh2
        rotate_right
        refine Xg.any_pure ((Value.bool true)) 12 (by kernel_rfl) rfl (by kernel_rfl) (by kernel_rfl) (by kernel_rfl) (by kernel_rfl) rfl (fun _ => by kernel_rfl) ?_
        refine Xg.any_nil (by kernel_rfl) ?_
        refine Xg.at_true (t := true) (by kernel_rfl) rfl ?_
        refine Xg.at_region ?_
        refine Xg.ops_op (by kernel_rfl) (Xg.opx_pure ((Value.slice a l.length c)) rfl (fun _ => by kernel_rfl) ?_)
        refine Xg.ops_op (by kernel_rfl) (Xg.opx_loadn (off := 0) 4 1 [iv (σ.oam n - (16 : Int)), iv (σ.oam ((↑n : Int) + (1 : Int)).toNat - (8 : Int)), iv (σ.oam ((↑n : Int) + (2 : Int)).toNat), iv (σ.oam ((↑n : Int) + (3 : Int)).toNat)] (by kernel_rfl) rfl (by kernel_rfl) rfl (Xg.cells_at (by kernel_rfl)) (by kernel_rfl) ?_)
        refine Xg.ops_op (by kernel_rfl) (Xg.opx_bs (elem := 105) 4 [Value.agg #[iv (σ.oam n - (16 : Int)), iv (σ.oam ((↑n : Int) + (1 : Int)).toNat - (8 : Int)), iv (σ.oam ((↑n : Int) + (2 : Int)).toNat), iv (σ.oam ((↑n : Int) + (3 : Int)).toNat)]] [iv (σ.oam n - (16 : Int)), iv (σ.oam ((↑n : Int) + (1 : Int)).toNat - (8 : Int)), iv (σ.oam ((↑n : Int) + (2 : Int)).toNat), iv (σ.oam ((↑n : Int) + (3 : Int)).toNat)] (by kernel_rfl) (by kernel_rfl) (by decide) rfl (by kernel_rfl) (by kernel_rfl) (by kernel_rfl) (by kernel_rfl) fun xb2 => ?_)
        refine Xg.ops_op (by kernel_rfl) (Xg.opx_append_recs (elem := 105) (yv := (Value.slice (some (Addr.mk xb2 (0 : Nat) none)) (1 : Nat) (1 : Nat))) (l := l) 3 4 32 (Spr.mk (σ.oam n - (16 : Int)) (σ.oam ((↑n : Int) + (1 : Int)).toNat - (8 : Int)) (σ.3 ((↑n : Int) + (2 : Int)).toNat) (σ.3 ((↑n : Int) + (3 : Int)).toNat)) rfl (by kernel_rfl) (by kernel_rfl) (by kernel_rfl) (by kernel_rfl) (fun _ hS => Xg.row_rd hS 0 rfl (by kernel_rfl)) (by kernel_rfl) (by first | omega | (simp only [List.length_nil]; omega) | (simp; omega)) (by first | omega | (simp only [List.length_nil]; omega) | (simp; omega)) fun xa1 xc1 => ?_)
        have xl1 : (l ++ [(Spr.mk (σ.oam n - (16 : Int)) (σ.oam ((↑n : Int) + (1 : Int)).toNat - (8 : Int)) (σ.3 ((↑n : Int) + (2 : Int)).toNat) (σ.3 ((↑n : Int) + (3 : Int)).toNat))]).length = (l).length + 1 := by simp
        refine Xg.ops_op (by kernel_rfl) (Xg.opx_pure ((Value.slice xa1 (l ++ [Spr.mk (σ.oam n - (16 : Int)) (σ.oam ((↑n : Int) + (1 : Int)).toNat - (8 : Int)) (σ.oam ((↑n : Int) + (2 : Int)).toNat) (σ.oam ((↑n : Int) + (3 : Int)).toNat)]).length xc1)) rfl (fun _ => by kernel_rfl) ?_)
        refine Xg.ops_nil ?_
        refine Xg.at_inBlock ?_
        refine Xg.at_region ?_
        refine Xg.ops_op (by kernel_rfl) (Xg.opx_pure ((iv (↑n : Int))) rfl (fun _ => by kernel_rfl) ?_)
        refine Xg.ops_op (by kernel_rfl) (Xg.opx_int .i64 (IntKind.wrap .i64 (((↑n : Int) + (4 : Int)))) rfl (fun _ => by kernel_rfl) (Xg.wrap_i64_in (by omega)) ?_)
        refine Xg.ops_op (by kernel_rfl) (Xg.opx_pure ((iv ((↑n : Int) + (4 : Int)))) rfl (fun _ => by kernel_rfl) ?_)
        refine Xg.ops_nil ?_
        refine Xg.at_inLoop ?_
        rotate_left
        refine Xg.any_pure ((Value.bool false)) 12 (by kernel_rfl) rfl (by kernel_rfl) (by kernel_rfl) (by kernel_rfl) (by kernel_rfl) rfl (fun _ => by kernel_rfl) ?_
        refine Xg.any_nil (by kernel_rfl) ?_
        refine Xg.at_false (t := false) (by kernel_rfl) rfl ?_
        refine Xg.at_skip ?_
        refine Xg.at_inBlock ?_
        refine Xg.at_region ?_
        refine Xg.ops_op (by kernel_rfl) (Xg.opx_pure ((iv (↑n : Int))) rfl (fun _ => by kernel_rfl) ?_)
        refine Xg.ops_op (by kernel_rfl) (Xg.opx_int .i64 (IntKind.wrap .i64 (((↑n : Int) + (4 : Int)))) rfl (fun _ => by kernel_rfl) (Xg.wrap_i64_in (by omega)) ?_)
        refine Xg.ops_op (by kernel_rfl) (Xg.opx_pure ((iv ((↑n : Int) + (4 : Int)))) rfl (fun _ => by kernel_rfl) ?_)
        refine Xg.ops_nil ?_
        refine Xg.at_inLoop ?_
        rotate_left
        refine Xg.any_skip 5 (by kernel_rfl) rfl (by kernel_rfl) (by kernel_rfl) (by kernel_rfl) (by kernel_rfl) ?_
        refine Xg.any_skip 6 (by kernel_rfl) rfl (by kernel_rfl) (by kernel_rfl) (by kernel_rfl) (by kernel_rfl) ?_
        refine Xg.any_skip 7 (by kernel_rfl) rfl (by kernel_rfl) (by kernel_rfl) (by kernel_rfl) (by kernel_rfl) ?_
        refine Xg.any_skip 8 (by kernel_rfl) rfl (by kernel_rfl) (by kernel_rfl) (by kernel_rfl) (by kernel_rfl) ?_
        refine Xg.any_each [9] (by kernel_rfl) rfl ⟨?_, trivial⟩
        refine Xg.comes_skip rfl (by kernel_rfl) (by kernel_rfl) ?_
        refine Xg.acts (Xg.owes_skip (by kernel_rfl) (Xg.owes_cell 0 rfl (by kernel_rfl) Xg.owes_nil)) ?_
        refine Xg.any_skip 10 (by kernel_rfl) rfl (by kernel_rfl) (by kernel_rfl) (by kernel_rfl) (by kernel_rfl) ?_
        refine Xg.any_skip 11 (by kernel_rfl) rfl (by kernel_rfl) (by kernel_rfl) (by kernel_rfl) (by kernel_rfl) ?_
        refine Xg.any_pure ((Value.bool false)) 12 (by kernel_rfl) rfl (by kernel_rfl) (by kernel_rfl) (by kernel_rfl) (by kernel_rfl) rfl (fun _ => by kernel_rfl) ?_
        refine Xg.any_nil (by kernel_rfl) ?_
        refine Xg.at_false (t := false) (by kernel_rfl) rfl ?_
        refine Xg.at_skip ?_
        refine Xg.at_inBlock ?_
        refine Xg.at_region ?_
        refine Xg.ops_op (by kernel_rfl) (Xg.opx_pure ((iv (↑n : Int))) rfl (fun _ => by kernel_rfl) ?_)
        refine Xg.ops_op (by kernel_rfl) (Xg.opx_int .i64 (IntKind.wrap .i64 (((↑n : Int) + (4 : Int)))) rfl (fun _ => by kernel_rfl) (Xg.wrap_i64_in (by omega)) ?_)
        refine Xg.ops_op (by kernel_rfl) (Xg.opx_pure ((iv ((↑n : Int) + (4 : Int)))) rfl (fun _ => by kernel_rfl) ?_)
        refine Xg.ops_nil ?_
        refine Xg.at_inLoop ?_)
      · (focus
          refine Xg.at_keep [2, 1] (by kernel_rfl) ?_
          refine Xs.same ?_ (fun J9 => ih (((n + 4, k + 1, l, a, c)), J9) ?_ ?_) (by kernel_rfl))
        · rfl
        · exact ⟨by dsimp only; omega, by dsimp only; omega, (hno (by omega)).symm, hlen⟩
        · dsimp only; omega
      · (focus
          refine Xg.at_keep [3, 1] (by kernel_rfl) ?_
          refine Xs.same ?_ (fun J9 => ih (((n + 4, k + 1, l ++ [Spr.mk (σ.oam n - 16) (σ.oam (Int.toNat ((n : Int) + 1)) - 8) (σ.oam (Int.toNat ((n : Int) + 2))) (σ.oam (Int.toNat ((n : Int) + 3)))], xa1, xc1)), J9) ?_ ?_) (by kernel_rfl))
        · rfl
        · refine ⟨by dsimp only; omega, by dsimp only; omega, ?_, by dsimp only; omega⟩
          rw [← es]; exact (hyes (by omega)).symm
        · dsimp only; omega
      · (focus
          refine Xg.at_keep [2, 0] (by kernel_rfl) ?_
          refine Xs.same ?_ (fun J9 => ih (((n + 4, k + 1, l, a, c)), J9) ?_ ?_) (by kernel_rfl))
        · rfl
        · exact ⟨by dsimp only; omega, by dsimp only; omega, (hno (by omega)).symm, hlen⟩
        · dsimp only; omega
    · have hlR : l = R := by
        rw [← hR, hl]
        rcases Nat.lt_or_ge k 40 with h | h
        · have hf : ¬ (selN σ y k).length < 10 := by rw [← hl]; omega
          have := selN_full σ y k (40 - k) hf
          rw [show k + (40 - k) = 40 from by omega] at this
          exact this.symm
        · rw [show k = 40 from by omega]
      subst hlR
      clear ih
      (focus
        refine Xg.at_seq ?_
        refine Xg.at_seq ?_
        refine Xg.at_region ?_
        refine Xg.ops_op (by kernel_rfl) (Xg.opx_pure ((iv (↑n : Int))) rfl (fun _ => by kernel_rfl) ?_)
        refine Xg.ops_op (by kernel_rfl) (Xg.opx_pure (.bool (decide ((((↑n : Int)) : Int) < ((160 : Int))))) rfl (fun _ => by kernel_rfl) ?_)
        refine Xg.ops_op (by kernel_rfl) (Xg.opx_pure ((Value.bool (decide ((↑n : Int) < (160 : Int))))) rfl (fun _ => by kernel_rfl) ?_)
        refine Xg.ops_flag (j := 10) (c := (decide ((↑n : Int) < (160 : Int)))) (by kernel_rfl) (fun xh1 => ?_) (fun xh1 => ?_)
        replace xh1 : ((↑n : Int) < (160 : Int)) := of_decide_eq_true xh1
        rotate_left
        replace xh1 : ¬ (((↑n : Int) < (160 : Int))) := of_decide_eq_false xh1
        rotate_right
        refine Xg.ops_op (by kernel_rfl) (Xg.opx_pure ((Value.slice a l.length c)) rfl (fun _ => by kernel_rfl) ?_)
        refine Xg.ops_op (by kernel_rfl) (Xg.opx_pure ((iv (↑l.length : Int))) rfl (fun _ => by kernel_rfl) ?_)
        refine Xg.ops_op (by kernel_rfl) (Xg.opx_pure (.bool (decide ((((↑l.length : Int)) : Int) < ((10 : Int))))) rfl (fun _ => by kernel_rfl) ?_)
        refine Xg.ops_flag (j := 13) (c := (decide ((↑l.length : Int) < (10 : Int)))) (by kernel_rfl) (fun xh2 => absurd (of_decide_eq_true xh2) (by omega)) (fun _ => ?_)
        refine Xg.ops_op (by kernel_rfl) (Xg.opx_pure ((Value.bool false)) rfl (fun _ => by kernel_rfl) ?_)
        refine Xg.ops_op (by kernel_rfl) (Xg.opx_pure ((Value.bool false)) rfl (fun _ => by kernel_rfl) ?_)
        refine Xg.ops_skip (by kernel_rfl) ?_
        refine Xg.ops_skip (by kernel_rfl) ?_
        refine Xg.ops_op (by kernel_rfl) (Xg.opx_pure ((Value.bool false)) rfl (fun _ => by kernel_rfl) ?_)
        refine Xg.ops_nil ?_
        refine Xg.at_false (t := false) (by kernel_rfl) rfl ?_
        refine Xg.at_exit rfl ?_
        refine Xg.at_seq ?_
        refine Xg.at_region ?_
        refine Xg.ops_op (by kernel_rfl) (Xg.opx_pure ((Value.slice a l.length c)) rfl (fun _ => by kernel_rfl) ?_)
        refine Xg.ops_op (by kernel_rfl) (Xg.opx_pure ((Value.slice a l.length c)) rfl (fun _ => by kernel_rfl) ?_)
        refine Xg.ops_nil ?_
        refine Xg.at_ret_ps (v := (Value.slice a l.length c)) [0, 1] [recsO (105 : Nat) (4 : Nat) sprC a c l, PpR p σ] Go.Proofs.Try.func75 (fun _ => by kernel_rfl) (by kernel_rfl) (by kernel_rfl) ?_
        refine ⟨((a, c)), trivial, by kernel_rfl, by kernel_rfl⟩
        refine Xg.ops_skip (by kernel_rfl) ?_
        refine Xg.ops_skip (by kernel_rfl) ?_
        refine Xg.ops_skip (by kernel_rfl) ?_
        refine Xg.ops_op (by kernel_rfl) (Xg.opx_pure ((Value.bool false)) rfl (fun _ => by kernel_rfl) ?_)
        refine Xg.ops_op (by kernel_rfl) (Xg.opx_pure ((Value.bool false)) rfl (fun _ => by kernel_rfl) ?_)
        refine Xg.ops_skip (by kernel_rfl) ?_
        refine Xg.ops_skip (by kernel_rfl) ?_
        refine Xg.ops_op (by kernel_rfl) (Xg.opx_pure ((Value.bool false)) rfl (fun _ => by kernel_rfl) ?_)
        refine Xg.ops_nil ?_
        refine Xg.at_false (t := false) (by kernel_rfl) rfl ?_
        refine Xg.at_exit rfl ?_
        refine Xg.at_seq ?_
        refine Xg.at_region ?_
        refine Xg.ops_op (by kernel_rfl) (Xg.opx_pure ((Value.slice a l.length c)) rfl (fun _ => by kernel_rfl) ?_)
        refine Xg.ops_op (by kernel_rfl) (Xg.opx_pure ((Value.slice a l.length c)) rfl (fun _ => by kernel_rfl) ?_)
        refine Xg.ops_nil ?_
        refine Xg.at_ret_ps (v := (Value.slice a l.length c)) [0, 1] [recsO (105 : Nat) (4 : Nat) sprC a c l, PpR p σ] Go.Proofs.Try.func75 (fun _ => by kernel_rfl) (by kernel_rfl) (by kernel_rfl) ?_
        refine ⟨((a, c)), trivial, by kernel_rfl, by kernel_rfl⟩)
  · have e : sprL σ y = [] := if_neg h1
    have h1' : hasB (σ.regs 0) 1 = false := by simpa using h1
    have hh1 : Does Try.prog 74 [pt p, .int .i64 1] [PpR p σ] (Ret (.bool false) [PpR p σ]) := by
      have := has_1 p σ h0
      rwa [h1'] at this
    rw [e]
    (focus
      refine Xg.spec_of Go.Proofs.Try.func75 rfl Go.Proofs.Try.ntmps75 fun g F => ?_)
    refine Xg.at_nil_own 105 4 ?_
    (focus
      refine Xg.at_seq ?_
      refine Xg.at_region ?_
      refine Xg.ops_op (by kernel_rfl) (Xg.opx_pure ((Value.slice none (0 : Nat) (0 : Nat))) rfl (fun _ => by kernel_rfl) ?_)
      refine Xg.ops_nil ?_
      refine Xg.at_seq ?_
      refine Xg.at_region ?_
      refine Xg.ops_op (by kernel_rfl) (Xg.opx_pure ((Value.slice none (0 : Nat) (0 : Nat))) rfl (fun _ => by kernel_rfl) ?_)
      refine Xg.ops_nil ?_
      refine Xg.at_seq ?_
      refine Xg.at_seq ?_
      refine Xg.at_region ?_
      refine Xg.ops_op (by kernel_rfl) (Xg.opx_pure ((iv 0)) rfl (fun _ => by kernel_rfl) ?_)
      refine Xg.ops_nil ?_
      refine Xg.at_block ?_
      refine Xg.at_loop ?_
      refine Xg.at_seq ?_
      refine Xg.at_seq ?_
      refine Xg.at_region ?_
      refine Xg.ops_op (by kernel_rfl) (Xg.opx_pure ((iv 0)) rfl (fun _ => by kernel_rfl) ?_)
      refine Xg.ops_op (by kernel_rfl) (Xg.opx_pure ((Value.bool true)) rfl (fun _ => by kernel_rfl) ?_)
      refine Xg.ops_op (by kernel_rfl) (Xg.opx_pure ((Value.bool true)) rfl (fun _ => by kernel_rfl) ?_)
      refine Xg.ops_op (by kernel_rfl) (Xg.opx_pure ((Value.slice none (0 : Nat) (0 : Nat))) rfl (fun _ => by kernel_rfl) ?_)
      refine Xg.ops_op (by kernel_rfl) (Xg.opx_pure ((iv 0)) rfl (fun _ => by kernel_rfl) ?_)
      refine Xg.ops_op (by kernel_rfl) (Xg.opx_pure ((Value.bool true)) rfl (fun _ => by kernel_rfl) ?_)
      refine Xg.ops_op (by kernel_rfl) (Xg.opx_pure ((Value.bool true)) rfl (fun _ => by kernel_rfl) ?_)
      refine Xg.ops_op (by kernel_rfl) (Xg.opx_pure ((Value.bool true)) rfl (fun _ => by kernel_rfl) ?_)
      refine Xg.ops_op (by kernel_rfl) (Xg.opx_pure ((pv p 0)) rfl (fun _ => by kernel_rfl) ?_)
      refine Xg.ops_op (by kernel_rfl) (Xg.opx_call1' [1] [PpR p σ, ownS (105 : Nat) (4 : Nat) (Value.slice none (0 : Nat) (0 : Nat)) (0 : Nat) []] (fun _ => by kernel_rfl) (@hh1 ) (by kernel_rfl) (by kernel_rfl) (by kernel_rfl) ?_)
      refine Xg.ops_op (by kernel_rfl) (Xg.opx_pure ((Value.bool false)) rfl (fun _ => by kernel_rfl) ?_)
      refine Xg.ops_nil ?_
      refine Xg.at_false (t := false) (by kernel_rfl) rfl ?_
      refine Xg.at_exit rfl ?_
      refine Xg.at_seq ?_
      refine Xg.at_region ?_
      refine Xg.ops_op (by kernel_rfl) (Xg.opx_pure ((Value.slice none (0 : Nat) (0 : Nat))) rfl (fun _ => by kernel_rfl) ?_)
      refine Xg.ops_op (by kernel_rfl) (Xg.opx_pure ((Value.slice none (0 : Nat) (0 : Nat))) rfl (fun _ => by kernel_rfl) ?_)
      refine Xg.ops_nil ?_
      refine Xg.at_ret_ps (v := (Value.slice none (0 : Nat) (0 : Nat))) [1, 0] [ownS (105 : Nat) (4 : Nat) (Value.slice none (0 : Nat) (0 : Nat)) (0 : Nat) [], PpR p σ] Go.Proofs.Try.func75 (fun _ => by kernel_rfl) (by kernel_rfl) (by kernel_rfl) ?_
      refine ⟨((none, (0 : Nat))), trivial, by kernel_rfl, by kernel_rfl⟩)

end Go.Proofs.Ytkfclamiendamaa
