/- The picture's functions: sprites. -/
import Derived.Test.YtkfclamiendamaaKV12
import Derived.Test.YtkfclamiendamaaKS
namespace Go.Proofs.Ytkfclamiendamaa
open Go.Sl Go.Xg
set_option linter.unusedVariables false
set_option linter.unusedSimpArgs false
set_option maxHeartbeats 4000000
set_option maxRecDepth 100000

structure Spr where
  row : Int
  column : Int
  tile : Int
  flags : Int
instance : Inhabited Spr := ⟨⟨0, 0, 0, 0⟩⟩
abbrev sprC (s : Spr) : List Value := [.int .i64 s.row, .int .i64 s.column, .int .i64 s.tile, .int .i64 s.flags]
structure Spr.Ok (s : Spr) : Prop where
  row : -16 ≤ s.row ∧ s.row ≤ 239
  column : -8 ≤ s.column ∧ s.column ≤ 247
  tile : 0 ≤ s.tile ∧ s.tile ≤ 255
  flags : 0 ≤ s.flags ∧ s.flags ≤ 255

theorem heightI_bd (σ : Pp) : heightI σ = 8 ∨ heightI σ = 16 := by
  unfold heightI; split
  · exact .inr rfl
  · exact .inl rfl

theorem tall_tile {t b : Int} (ht : 0 ≤ t ∧ t ≤ 255) (hb : b = 0 ∨ b = 1) : bor .i64 (bclr .i64 t 1) b = t / 2 * 2 + b := by
  obtain ⟨n, rfl⟩ := nat_of ht.1
  have : ∀ n : Fin 256, bor .i64 (bclr .i64 (n.val : Nat) 1) 0 = (n.val : Int) / 2 * 2 + 0 ∧ bor .i64 (bclr .i64 (n.val : Nat) 1) 1 = (n.val : Int) / 2 * 2 + 1 := by decide +kernel
  rcases hb with rfl | rfl
  · exact (this ⟨n, by omega⟩).1
  · exact (this ⟨n, by omega⟩).2

/-- The number of a sprite's point. -/
def rowI (σ : Pp) (s : Spr) (row : Int) : Int := if band .i64 s.flags 64 = 0 then row else heightI σ - 1 - row
def colI (s : Spr) (col : Int) : Int := if band .i64 s.flags 32 = 0 then col else 7 - col
def pointI (σ : Pp) (s : Spr) (row col : Int) : Int :=
  numI σ (16 * (if hasB (σ.regs 0) 2 = true then s.tile / 2 * 2 + rowI σ s row / 8 else s.tile) + 2 * (rowI σ s row % 8)).toNat (colI s col)
theorem pointI_bd (σ : Pp) (s : Spr) (row col : Int) : 0 ≤ pointI σ s row col ∧ pointI σ s row col ≤ 3 := numI_bd _ _ _

set_option maxHeartbeats 0 in
theorem point_d (p : Nat) (σ : Pp) (hσ : σ.Wf) (s : Spr) (hs : s.Ok) (row col : Int) (hr : 0 ≤ row ∧ row < heightI σ) (hc : 0 ≤ col ∧ col ≤ 7) : Does Try.prog 94 [pt p, .agg #[.int .i64 s.row, .int .i64 s.column, .int .i64 s.tile, .int .i64 s.flags], .int .i64 row, .int .i64 col] [PpR p σ]
    (Ret (.int .i64 (pointI σ s row col)) [PpR p σ]) := by
  have h0 := hσ.regs 0
  have ht := hs.tile
  have hh := heightI_bd σ
  have h7 := band_7 row
  have h7' := band_7 (heightI σ - 1 - row)
  have htt := tall_tile (b := row / 8) ht (by omega)
  have htt' := tall_tile (b := (heightI σ - 1 - row) / 8) ht (by omega)
  (focus
    refine Xg.spec_of Go.Proofs.Try.func94 rfl Go.Proofs.Try.ntmps94 fun g F => ?_)
  (focus
    refine Xg.at_seq ?_
    refine Xg.at_region ?_
    refine Xg.ops_op (by kernel_rfl) (Xg.opx_box (v := (Value.agg #[iv s.row, iv s.column, iv s.tile, iv s.flags])) [iv s.row, iv s.column, iv s.tile, iv s.flags] (by kernel_rfl) (by kernel_rfl) fun xb1 => ?_)
    refine Xg.ops_op (by kernel_rfl) (Xg.opx_pure ((iv 0)) rfl (fun _ => by kernel_rfl) ?_)
    refine Xg.ops_nil ?_
    refine Xg.at_seq ?_
    refine Xg.at_seq ?_
    refine Xg.at_region ?_
    refine Xg.ops_op (by kernel_rfl) (Xg.opx_pure ((pv xb1 3)) rfl (fun _ => by kernel_rfl) ?_)
    refine Xg.ops_op (by kernel_rfl) (Xg.opx_load (b := xb1) (off := ((3 : Nat))) 0 (iv s.flags) rfl (by kernel_rfl) (by kernel_rfl) (by kernel_rfl) ?_)
    refine Xg.ops_op (by kernel_rfl) (Xg.opx_pure (.int .i64 (Xg.band .i64 (s.flags) (((64 : Int))))) rfl (fun _ => by kernel_rfl) ?_)
    refine Xg.ops_op (by kernel_rfl) (Xg.opx_pure (.bool (!decide (((band IntKind.i64 s.flags (64 : Int)) : Int) = ((0 : Int))))) rfl (fun _ => by kernel_rfl) ?_)
    refine Xg.ops_nil ?_
    refine Xg.at_ndec (p := (band IntKind.i64 s.flags (64 : Int) = (0 : Int))) (by kernel_rfl) (fun xh1 => ?_) (fun xh1 => ?_)
    refine Xg.at_region ?_
    refine Xg.ops_op (by kernel_rfl) (Xg.opx_pure ((pv p 0)) rfl (fun _ => by kernel_rfl) ?_)
    refine Xg.ops_op (by kernel_rfl) (Xg.opx_call1' [1] [PpR p σ, Sl.row xb1 (105 : Nat) [iv s.row, iv s.column, iv s.tile, iv s.flags]] (fun _ => by kernel_rfl) (@Go.Proofs.Ytkfclamiendamaa.height_d (p) (σ) (by omega)) (by kernel_rfl) (by kernel_rfl) (by kernel_rfl) ?_)
    refine Xg.ops_op (by kernel_rfl) (Xg.opx_int .i64 (IntKind.wrap .i64 ((heightI σ - (1 : Int)))) rfl (fun _ => by kernel_rfl) (Xg.wrap_i64_in (by omega)) ?_)
    refine Xg.ops_op (by kernel_rfl) (Xg.opx_pure ((iv row)) rfl (fun _ => by kernel_rfl) ?_)
    refine Xg.ops_op (by kernel_rfl) (Xg.opx_int .i64 (IntKind.wrap .i64 ((heightI σ - (1 : Int) - row))) rfl (fun _ => by kernel_rfl) (Xg.wrap_i64_in (by omega)) ?_)
    refine Xg.ops_op (by kernel_rfl) (Xg.opx_pure ((iv (heightI σ - (1 : Int) - row))) rfl (fun _ => by kernel_rfl) ?_)
    refine Xg.ops_nil ?_
    refine Xg.at_seq ?_
    refine Xg.at_seq ?_
    refine Xg.at_region ?_
    refine Xg.ops_op (by kernel_rfl) (Xg.opx_pure ((pv xb1 3)) rfl (fun _ => by kernel_rfl) ?_)
    refine Xg.ops_op (by kernel_rfl) (Xg.opx_load (b := xb1) (off := ((3 : Nat))) 1 (iv s.flags) rfl (by kernel_rfl) (by kernel_rfl) (by kernel_rfl) ?_)
    refine Xg.ops_op (by kernel_rfl) (Xg.opx_pure (.int .i64 (Xg.band .i64 (s.flags) (((32 : Int))))) rfl (fun _ => by kernel_rfl) ?_)
    refine Xg.ops_op (by kernel_rfl) (Xg.opx_pure (.bool (!decide (((band IntKind.i64 s.flags (32 : Int)) : Int) = ((0 : Int))))) rfl (fun _ => by kernel_rfl) ?_)
    refine Xg.ops_nil ?_
    refine Xg.at_ndec (p := (band IntKind.i64 s.flags (32 : Int) = (0 : Int))) (by kernel_rfl) (fun xh2 => ?_) (fun xh2 => ?_)
    refine Xg.at_region ?_
    refine Xg.ops_op (by kernel_rfl) (Xg.opx_pure ((iv col)) rfl (fun _ => by kernel_rfl) ?_)
    refine Xg.ops_op (by kernel_rfl) (Xg.opx_int .i64 (IntKind.wrap .i64 (((7 : Int) - col))) rfl (fun _ => by kernel_rfl) (Xg.wrap_i64_in (by omega)) ?_)
    refine Xg.ops_op (by kernel_rfl) (Xg.opx_pure ((iv ((7 : Int) - col))) rfl (fun _ => by kernel_rfl) ?_)
    refine Xg.ops_nil ?_
    refine Xg.at_seq ?_
    refine Xg.at_region ?_
    refine Xg.ops_op (by kernel_rfl) (Xg.opx_pure ((pv xb1 2)) rfl (fun _ => by kernel_rfl) ?_)
    refine Xg.ops_op (by kernel_rfl) (Xg.opx_load (b := xb1) (off := ((2 : Nat))) 1 (iv s.tile) rfl (by kernel_rfl) (by kernel_rfl) (by kernel_rfl) ?_)
    refine Xg.ops_op (by kernel_rfl) (Xg.opx_pure ((iv s.tile)) rfl (fun _ => by kernel_rfl) ?_)
    refine Xg.ops_nil ?_
    refine Xg.at_seq ?_
    refine Xg.at_seq ?_
    refine Xg.at_region ?_
    refine Xg.ops_op (by kernel_rfl) (Xg.opx_pure ((pv p 0)) rfl (fun _ => by kernel_rfl) ?_)
    refine Xg.ops_op (by kernel_rfl) (Xg.opx_call1' [0] [PpR p σ, Sl.row xb1 (105 : Nat) [iv s.row, iv s.column, iv s.tile, iv s.flags]] (fun _ => by kernel_rfl) (@Go.Proofs.Ytkfclamiendamaa.has_2 (p) (σ) (by omega)) (by kernel_rfl) (by kernel_rfl) (by kernel_rfl) ?_)
    refine Xg.ops_nil ?_
    refine Xg.at_cond (t := (hasB (σ.regs 0) (2 : Nat))) (by kernel_rfl) (fun xh3 => ?_) (fun xh3 => ?_)
    refine Xg.at_region ?_
    refine Xg.ops_op (by kernel_rfl) (Xg.opx_pure ((iv s.tile)) rfl (fun _ => by kernel_rfl) ?_)
    refine Xg.ops_op (by kernel_rfl) (Xg.opx_pure (.int .i64 (Xg.bclr .i64 (s.tile) (((1 : Int))))) rfl (fun _ => by kernel_rfl) ?_)
    refine Xg.ops_op (by kernel_rfl) (Xg.opx_pure ((iv (heightI σ - (1 : Int) - row))) rfl (fun _ => by kernel_rfl) ?_)
    refine Xg.ops_op (by kernel_rfl) (Xg.opx_int .i64 (Int.fdiv ((heightI σ - (1 : Int) - row)) 8) rfl (fun _ => by kernel_rfl) (Xg.shr_div _ 8 (by decide)) ?_)
    refine Xg.ops_op (by kernel_rfl) (Xg.opx_pure (.int .i64 (Xg.bor .i64 ((bclr IntKind.i64 s.tile (1 : Int))) (((heightI σ - (1 : Int) - row) / (8 : Int))))) rfl (fun _ => by kernel_rfl) ?_)
    refine Xg.ops_op (by kernel_rfl) (Xg.opx_pure ((iv (bor IntKind.i64 (bclr IntKind.i64 s.tile (1 : Int)) ((heightI σ - (1 : Int) - row) / (8 : Int))))) rfl (fun _ => by kernel_rfl) ?_)
    refine Xg.ops_nil ?_
    refine Xg.at_seq ?_
    refine Xg.at_region ?_
    refine Xg.ops_op (by kernel_rfl) (Xg.opx_pure ((pv p 0)) rfl (fun _ => by kernel_rfl) ?_)
    refine Xg.ops_op (by kernel_rfl) (Xg.opx_pure ((iv (bor IntKind.i64 (bclr IntKind.i64 s.tile (1 : Int)) ((heightI σ - (1 : Int) - row) / (8 : Int))))) rfl (fun _ => by kernel_rfl) ?_)
    refine Xg.ops_op (by kernel_rfl) (Xg.opx_int .i64 (IntKind.wrap .i64 (((16 : Int) * bor IntKind.i64 (bclr IntKind.i64 s.tile (1 : Int)) ((heightI σ - (1 : Int) - row) / (8 : Int))))) rfl (fun _ => by kernel_rfl) (Xg.wrap_i64_in (by omega)) ?_)
    refine Xg.ops_op (by kernel_rfl) (Xg.opx_pure ((iv (heightI σ - (1 : Int) - row))) rfl (fun _ => by kernel_rfl) ?_)
    refine Xg.ops_op (by kernel_rfl) (Xg.opx_pure (.int .i64 (Xg.band .i64 ((heightI σ - (1 : Int) - row)) (((7 : Int))))) rfl (fun _ => by kernel_rfl) ?_)
    refine Xg.ops_op (by kernel_rfl) (Xg.opx_int .i64 (IntKind.wrap .i64 (((2 : Int) * band IntKind.i64 (heightI σ - (1 : Int) - row) (7 : Int)))) rfl (fun _ => by kernel_rfl) (Xg.wrap_i64_in (by omega)) ?_)
    refine Xg.ops_op (by kernel_rfl) (Xg.opx_int .i64 (IntKind.wrap .i64 (((16 : Int) * bor IntKind.i64 (bclr IntKind.i64 s.tile (1 : Int)) ((heightI σ - (1 : Int) - row) / (8 : Int)) + (2 : Int) * band IntKind.i64 (heightI σ - (1 : Int) - row) (7 : Int)))) rfl (fun _ => by kernel_rfl) (Xg.wrap_i64_in (by omega)) ?_)
    refine Xg.ops_op (by kernel_rfl) (Xg.opx_pure ((iv ((7 : Int) - col))) rfl (fun _ => by kernel_rfl) ?_)
    refine Xg.ops_op (by kernel_rfl) (Xg.opx_call1' [0] [PpR p σ, Sl.row xb1 (105 : Nat) [iv s.row, iv s.column, iv s.tile, iv s.flags]] (fun _ => by kernel_rfl) (@Go.Proofs.Ytkfclamiendamaa.number_d (p) (σ) (by omega) (((16 : Int) * bor IntKind.i64 (bclr IntKind.i64 s.tile (1 : Int)) ((heightI σ - (1 : Int) - row) / (8 : Int)) + (2 : Int) * band IntKind.i64 (heightI σ - (1 : Int) - row) (7 : Int))) (((7 : Int) - col)) (by omega)) (by kernel_rfl) (by kernel_rfl) (by kernel_rfl) ?_)
    refine Xg.ops_op (by kernel_rfl) (Xg.opx_pure ((iv (numI σ ((16 : Int) * bor IntKind.i64 (bclr IntKind.i64 s.tile (1 : Int)) ((heightI σ - (1 : Int) - row) / (8 : Int)) + (2 : Int) * band IntKind.i64 (heightI σ - (1 : Int) - row) (7 : Int)).toNat ((7 : Int) - col)))) rfl (fun _ => by kernel_rfl) ?_)
    refine Xg.ops_nil ?_
    refine Xg.at_ret_ps (v := (iv (numI σ ((16 : Int) * bor IntKind.i64 (bclr IntKind.i64 s.tile (1 : Int)) ((heightI σ - (1 : Int) - row) / (8 : Int)) + (2 : Int) * band IntKind.i64 (heightI σ - (1 : Int) - row) (7 : Int)).toNat ((7 : Int) - col)))) [0] [PpR p σ] Go.Proofs.Try.func94 (fun _ => by kernel_rfl) (by kernel_rfl) (by kernel_rfl) ?_
    rotate_left
    refine Xg.at_skip ?_
    refine Xg.at_seq ?_
    refine Xg.at_region ?_
    refine Xg.ops_op (by kernel_rfl) (Xg.opx_pure ((pv p 0)) rfl (fun _ => by kernel_rfl) ?_)
    refine Xg.ops_op (by kernel_rfl) (Xg.opx_pure ((iv s.tile)) rfl (fun _ => by kernel_rfl) ?_)
    refine Xg.ops_op (by kernel_rfl) (Xg.opx_int .i64 (IntKind.wrap .i64 (((16 : Int) * s.tile))) rfl (fun _ => by kernel_rfl) (Xg.wrap_i64_in (by omega)) ?_)
    refine Xg.ops_op (by kernel_rfl) (Xg.opx_pure ((iv (heightI σ - (1 : Int) - row))) rfl (fun _ => by kernel_rfl) ?_)
    refine Xg.ops_op (by kernel_rfl) (Xg.opx_pure (.int .i64 (Xg.band .i64 ((heightI σ - (1 : Int) - row)) (((7 : Int))))) rfl (fun _ => by kernel_rfl) ?_)
    refine Xg.ops_op (by kernel_rfl) (Xg.opx_int .i64 (IntKind.wrap .i64 (((2 : Int) * band IntKind.i64 (heightI σ - (1 : Int) - row) (7 : Int)))) rfl (fun _ => by kernel_rfl) (Xg.wrap_i64_in (by omega)) ?_)
    refine Xg.ops_op (by kernel_rfl) (Xg.opx_int .i64 (IntKind.wrap .i64 (((16 : Int) * s.tile + (2 : Int) * band IntKind.i64 (heightI σ - (1 : Int) - row) (7 : Int)))) rfl (fun _ => by kernel_rfl) (Xg.wrap_i64_in (by omega)) ?_)
    refine Xg.ops_op (by kernel_rfl) (Xg.opx_pure ((iv ((7 : Int) - col))) rfl (fun _ => by kernel_rfl) ?_)
    refine Xg.ops_op (by kernel_rfl) (Xg.opx_call1' [0] [PpR p σ, Sl.row xb1 (105 : Nat) [iv s.row, iv s.column, iv s.tile, iv s.flags]] (fun _ => by kernel_rfl) (@Go.Proofs.Ytkfclamiendamaa.number_d (p) (σ) (by omega) (((16 : Int) * s.tile + (2 : Int) * band IntKind.i64 (heightI σ - (1 : Int) - row) (7 : Int))) (((7 : Int) - col)) (by omega)) (by kernel_rfl) (by kernel_rfl) (by kernel_rfl) ?_)
    refine Xg.ops_op (by kernel_rfl) (Xg.opx_pure ((iv (numI σ ((16 : Int) * s.tile + (2 : Int) * band IntKind.i64 (heightI σ - (1 : Int) - row) (7 : Int)).toNat ((7 : Int) - col)))) rfl (fun _ => by kernel_rfl) ?_)
    refine Xg.ops_nil ?_
    refine Xg.at_ret_ps (v := (iv (numI σ ((16 : Int) * s.tile + (2 : Int) * band IntKind.i64 (heightI σ - (1 : Int) - row) (7 : Int)).toNat ((7 : Int) - col)))) [0] [PpR p σ] Go.Proofs.Try.func94 (fun _ => by kernel_rfl) (by kernel_rfl) (by kernel_rfl) ?_
    rotate_left
    refine Xg.at_skip ?_
    refine Xg.at_seq ?_
    refine Xg.at_region ?_
    refine Xg.ops_op (by kernel_rfl) (Xg.opx_pure ((pv xb1 2)) rfl (fun _ => by kernel_rfl) ?_)
    refine Xg.ops_op (by kernel_rfl) (Xg.opx_load (b := xb1) (off := ((2 : Nat))) 1 (iv s.tile) rfl (by kernel_rfl) (by kernel_rfl) (by kernel_rfl) ?_)
    refine Xg.ops_op (by kernel_rfl) (Xg.opx_pure ((iv s.tile)) rfl (fun _ => by kernel_rfl) ?_)
    refine Xg.ops_nil ?_
    refine Xg.at_seq ?_
    refine Xg.at_seq ?_
    refine Xg.at_region ?_
    refine Xg.ops_op (by kernel_rfl) (Xg.opx_pure ((pv p 0)) rfl (fun _ => by kernel_rfl) ?_)
    refine Xg.ops_op (by kernel_rfl) (Xg.opx_call1' [0] [PpR p σ, Sl.row xb1 (105 : Nat) [iv s.row, iv s.column, iv s.tile, iv s.flags]] (fun _ => by kernel_rfl) (@Go.Proofs.Ytkfclamiendamaa.has_2 (p) (σ) (by omega)) (by kernel_rfl) (by kernel_rfl) (by kernel_rfl) ?_)
    refine Xg.ops_nil ?_
    refine Xg.at_cond (t := (hasB (σ.regs 0) (2 : Nat))) (by kernel_rfl) (fun xh3 => ?_) (fun xh3 => ?_)
    refine Xg.at_region ?_
    refine Xg.ops_op (by kernel_rfl) (Xg.opx_pure ((iv s.tile)) rfl (fun _ => by kernel_rfl) ?_)
    refine Xg.ops_op (by kernel_rfl) (Xg.opx_pure (.int .i64 (Xg.bclr .i64 (s.tile) (((1 : Int))))) rfl (fun _ => by kernel_rfl) ?_)
    refine Xg.ops_op (by kernel_rfl) (Xg.opx_pure ((iv (heightI σ - (1 : Int) - row))) rfl (fun _ => by kernel_rfl) ?_)
    refine Xg.ops_op (by kernel_rfl) (Xg.opx_int .i64 (Int.fdiv ((heightI σ - (1 : Int) - row)) 8) rfl (fun _ => by kernel_rfl) (Xg.shr_div _ 8 (by decide)) ?_)
    refine Xg.ops_op (by kernel_rfl) (Xg.opx_pure (.int .i64 (Xg.bor .i64 ((bclr IntKind.i64 s.tile (1 : Int))) (((heightI σ - (1 : Int) - row) / (8 : Int))))) rfl (fun _ => by kernel_rfl) ?_)
    refine Xg.ops_op (by kernel_rfl) (Xg.opx_pure ((iv (bor IntKind.i64 (bclr IntKind.i64 s.tile (1 : Int)) ((heightI σ - (1 : Int) - row) / (8 : Int))))) rfl (fun _ => by kernel_rfl) ?_)
    refine Xg.ops_nil ?_
    refine Xg.at_seq ?_
    refine Xg.at_region ?_
    refine Xg.ops_op (by kernel_rfl) (Xg.opx_pure ((pv p 0)) rfl (fun _ => by kernel_rfl) ?_)
    refine Xg.ops_op (by kernel_rfl) (Xg.opx_pure ((iv (bor IntKind.i64 (bclr IntKind.i64 s.tile (1 : Int)) ((heightI σ - (1 : Int) - row) / (8 : Int))))) rfl (fun _ => by kernel_rfl) ?_)
    refine Xg.ops_op (by kernel_rfl) (Xg.opx_int .i64 (IntKind.wrap .i64 (((16 : Int) * bor IntKind.i64 (bclr IntKind.i64 s.tile (1 : Int)) ((heightI σ - (1 : Int) - row) / (8 : Int))))) rfl (fun _ => by kernel_rfl) (Xg.wrap_i64_in (by omega)) ?_)
    refine Xg.ops_op (by kernel_rfl) (Xg.opx_pure ((iv (heightI σ - (1 : Int) - row))) rfl (fun _ => by kernel_rfl) ?_)
    refine Xg.ops_op (by kernel_rfl) (Xg.opx_pure (.int .i64 (Xg.band .i64 ((heightI σ - (1 : Int) - row)) (((7 : Int))))) rfl (fun _ => by kernel_rfl) ?_)
    refine Xg.ops_op (by kernel_rfl) (Xg.opx_int .i64 (IntKind.wrap .i64 (((2 : Int) * band IntKind.i64 (heightI σ - (1 : Int) - row) (7 : Int)))) rfl (fun _ => by kernel_rfl) (Xg.wrap_i64_in (by omega)) ?_)
    refine Xg.ops_op (by kernel_rfl) (Xg.opx_int .i64 (IntKind.wrap .i64 (((16 : Int) * bor IntKind.i64 (bclr IntKind.i64 s.tile (1 : Int)) ((heightI σ - (1 : Int) - row) / (8 : Int)) + (2 : Int) * band IntKind.i64 (heightI σ - (1 : Int) - row) (7 : Int)))) rfl (fun _ => by kernel_rfl) (Xg.wrap_i64_in (by omega)) ?_)
    refine Xg.ops_op (by kernel_rfl) (Xg.opx_pure ((iv col)) rfl (fun _ => by kernel_rfl) ?_)
    refine Xg.ops_op (by kernel_rfl) (Xg.opx_call1' [0] [PpR p σ, Sl.row xb1 (105 : Nat) [iv s.row, iv s.column, iv s.tile, iv s.flags]] (fun _ => by kernel_rfl) (@Go.Proofs.Ytkfclamiendamaa.number_d (p) (σ) (by omega) (((16 : Int) * bor IntKind.i64 (bclr IntKind.i64 s.tile (1 : Int)) ((heightI σ - (1 : Int) - row) / (8 : Int)) + (2 : Int) * band IntKind.i64 (heightI σ - (1 : Int) - row) (7 : Int))) (col) (by omega)) (by kernel_rfl) (by kernel_rfl) (by kernel_rfl) ?_)
    refine Xg.ops_op (by kernel_rfl) (Xg.opx_pure ((iv (numI σ ((16 : Int) * bor IntKind.i64 (bclr IntKind.i64 s.tile (1 : Int)) ((heightI σ - (1 : Int) - row) / (8 : Int)) + (2 : Int) * band IntKind.i64 (heightI σ - (1 : Int) - row) (7 : Int)).toNat col))) rfl (fun _ => by kernel_rfl) ?_)
    refine Xg.ops_nil ?_
    refine Xg.at_ret_ps (v := (iv (numI σ ((16 : Int) * bor IntKind.i64 (bclr IntKind.i64 s.tile (1 : Int)) ((heightI σ - (1 : Int) - row) / (8 : Int)) + (2 : Int) * band IntKind.i64 (heightI σ - (1 : Int) - row) (7 : Int)).toNat col))) [0] [PpR p σ] Go.Proofs.Try.func94 (fun _ => by kernel_rfl) (by kernel_rfl) (by kernel_rfl) ?_
    rotate_left
    refine Xg.at_skip ?_
    refine Xg.at_seq ?_
    refine Xg.at_region ?_
    refine Xg.ops_op (by kernel_rfl) (Xg.opx_pure ((pv p 0)) rfl (fun _ => by kernel_rfl) ?_)
    refine Xg.ops_op (by kernel_rfl) (Xg.opx_pure ((iv s.tile)) rfl (fun _ => by kernel_rfl) ?_)
    refine Xg.ops_op (by kernel_rfl) (Xg.opx_int .i64 (IntKind.wrap .i64 (((16 : Int) * s.tile))) rfl (fun _ => by kernel_rfl) (Xg.wrap_i64_in (by omega)) ?_)
    refine Xg.ops_op (by kernel_rfl) (Xg.opx_pure ((iv (heightI σ - (1 : Int) - row))) rfl (fun _ => by kernel_rfl) ?_)
    refine Xg.ops_op (by kernel_rfl) (Xg.opx_pure (.int .i64 (Xg.band .i64 ((heightI σ - (1 : Int) - row)) (((7 : Int))))) rfl (fun _ => by kernel_rfl) ?_)
    refine Xg.ops_op (by kernel_rfl) (Xg.opx_int .i64 (IntKind.wrap .i64 (((2 : Int) * band IntKind.i64 (heightI σ - (1 : Int) - row) (7 : Int)))) rfl (fun _ => by kernel_rfl) (Xg.wrap_i64_in (by omega)) ?_)
    refine Xg.ops_op (by kernel_rfl) (Xg.opx_int .i64 (IntKind.wrap .i64 (((16 : Int) * s.tile + (2 : Int) * band IntKind.i64 (heightI σ - (1 : Int) - row) (7 : Int)))) rfl (fun _ => by kernel_rfl) (Xg.wrap_i64_in (by omega)) ?_)
    refine Xg.ops_op (by kernel_rfl) (Xg.opx_pure ((iv col)) rfl (fun _ => by kernel_rfl) ?_)
    refine Xg.ops_op (by kernel_rfl) (Xg.opx_call1' [0] [PpR p σ, Sl.row xb1 (105 : Nat) [iv s.row, iv s.column, iv s.tile, iv s.flags]] (fun _ => by kernel_rfl) (@Go.Proofs.Ytkfclamiendamaa.number_d (p) (σ) (by omega) (((16 : Int) * s.tile + (2 : Int) * band IntKind.i64 (heightI σ - (1 : Int) - row) (7 : Int))) (col) (by omega)) (by kernel_rfl) (by kernel_rfl) (by kernel_rfl) ?_)
    refine Xg.ops_op (by kernel_rfl) (Xg.opx_pure ((iv (numI σ ((16 : Int) * s.tile + (2 : Int) * band IntKind.i64 (heightI σ - (1 : Int) - row) (7 : Int)).toNat col))) rfl (fun _ => by kernel_rfl) ?_)
    refine Xg.ops_nil ?_
    refine Xg.at_ret_ps (v := (iv (numI σ ((16 : Int) * s.tile + (2 : Int) * band IntKind.i64 (heightI σ - (1 : Int) - row) (7 : Int)).toNat col))) [0] [PpR p σ] Go.Proofs.Try.func94 (fun _ => by kernel_rfl) (by kernel_rfl) (by kernel_rfl) ?_
    rotate_left
    refine Xg.at_skip ?_
    refine Xg.at_seq ?_
    refine Xg.at_seq ?_
    refine Xg.at_region ?_
    refine Xg.ops_op (by kernel_rfl) (Xg.opx_pure ((pv xb1 3)) rfl (fun _ => by kernel_rfl) ?_)
    refine Xg.ops_op (by kernel_rfl) (Xg.opx_load (b := xb1) (off := ((3 : Nat))) 0 (iv s.flags) rfl (by kernel_rfl) (by kernel_rfl) (by kernel_rfl) ?_)
    refine Xg.ops_op (by kernel_rfl) (Xg.opx_pure (.int .i64 (Xg.band .i64 (s.flags) (((32 : Int))))) rfl (fun _ => by kernel_rfl) ?_)
    refine Xg.ops_op (by kernel_rfl) (Xg.opx_pure (.bool (!decide (((band IntKind.i64 s.flags (32 : Int)) : Int) = ((0 : Int))))) rfl (fun _ => by kernel_rfl) ?_)
    refine Xg.ops_nil ?_
    refine Xg.at_ndec (p := (band IntKind.i64 s.flags (32 : Int) = (0 : Int))) (by kernel_rfl) (fun xh2 => ?_) (fun xh2 => ?_)
    refine Xg.at_region ?_
    refine Xg.ops_op (by kernel_rfl) (Xg.opx_pure ((iv col)) rfl (fun _ => by kernel_rfl) ?_)
    refine Xg.ops_op (by kernel_rfl) (Xg.opx_int .i64 (IntKind.wrap .i64 (((7 : Int) - col))) rfl (fun _ => by kernel_rfl) (Xg.wrap_i64_in (by omega)) ?_)
    refine Xg.ops_op (by kernel_rfl) (Xg.opx_pure ((iv ((7 : Int) - col))) rfl (fun _ => by kernel_rfl) ?_)
    refine Xg.ops_nil ?_
    refine Xg.at_seq ?_
    refine Xg.at_region ?_
    refine Xg.ops_op (by kernel_rfl) (Xg.opx_pure ((pv xb1 2)) rfl (fun _ => by kernel_rfl) ?_)
    refine Xg.ops_op (by kernel_rfl) (Xg.opx_load (b := xb1) (off := ((2 : Nat))) 0 (iv s.tile) rfl (by kernel_rfl) (by kernel_rfl) (by kernel_rfl) ?_)
    refine Xg.ops_op (by kernel_rfl) (Xg.opx_pure ((iv s.tile)) rfl (fun _ => by kernel_rfl) ?_)
    refine Xg.ops_nil ?_
    refine Xg.at_seq ?_
    refine Xg.at_seq ?_
    refine Xg.at_region ?_
    refine Xg.ops_op (by kernel_rfl) (Xg.opx_pure ((pv p 0)) rfl (fun _ => by kernel_rfl) ?_)
    refine Xg.ops_op (by kernel_rfl) (Xg.opx_call1' [1] [PpR p σ, Sl.row xb1 (105 : Nat) [iv s.row, iv s.column, iv s.tile, iv s.flags]] (fun _ => by kernel_rfl) (@Go.Proofs.Ytkfclamiendamaa.has_2 (p) (σ) (by omega)) (by kernel_rfl) (by kernel_rfl) (by kernel_rfl) ?_)
    refine Xg.ops_nil ?_
    refine Xg.at_cond (t := (hasB (σ.regs 0) (2 : Nat))) (by kernel_rfl) (fun xh3 => ?_) (fun xh3 => ?_)
    refine Xg.at_region ?_
    refine Xg.ops_op (by kernel_rfl) (Xg.opx_pure ((iv s.tile)) rfl (fun _ => by kernel_rfl) ?_)
    refine Xg.ops_op (by kernel_rfl) (Xg.opx_pure (.int .i64 (Xg.bclr .i64 (s.tile) (((1 : Int))))) rfl (fun _ => by kernel_rfl) ?_)
    refine Xg.ops_op (by kernel_rfl) (Xg.opx_pure ((iv row)) rfl (fun _ => by kernel_rfl) ?_)
    refine Xg.ops_op (by kernel_rfl) (Xg.opx_int .i64 (Int.fdiv (row) 8) rfl (fun _ => by kernel_rfl) (Xg.shr_div _ 8 (by decide)) ?_)
    refine Xg.ops_op (by kernel_rfl) (Xg.opx_pure (.int .i64 (Xg.bor .i64 ((bclr IntKind.i64 s.tile (1 : Int))) ((row / (8 : Int))))) rfl (fun _ => by kernel_rfl) ?_)
    refine Xg.ops_op (by kernel_rfl) (Xg.opx_pure ((iv (bor IntKind.i64 (bclr IntKind.i64 s.tile (1 : Int)) (row / (8 : Int))))) rfl (fun _ => by kernel_rfl) ?_)
    refine Xg.ops_nil ?_
    refine Xg.at_seq ?_
    refine Xg.at_region ?_
    refine Xg.ops_op (by kernel_rfl) (Xg.opx_pure ((pv p 0)) rfl (fun _ => by kernel_rfl) ?_)
    refine Xg.ops_op (by kernel_rfl) (Xg.opx_pure ((iv (bor IntKind.i64 (bclr IntKind.i64 s.tile (1 : Int)) (row / (8 : Int))))) rfl (fun _ => by kernel_rfl) ?_)
    refine Xg.ops_op (by kernel_rfl) (Xg.opx_int .i64 (IntKind.wrap .i64 (((16 : Int) * bor IntKind.i64 (bclr IntKind.i64 s.tile (1 : Int)) (row / (8 : Int))))) rfl (fun _ => by kernel_rfl) (Xg.wrap_i64_in (by omega)) ?_)
    refine Xg.ops_op (by kernel_rfl) (Xg.opx_pure ((iv row)) rfl (fun _ => by kernel_rfl) ?_)
    refine Xg.ops_op (by kernel_rfl) (Xg.opx_pure (.int .i64 (Xg.band .i64 (row) (((7 : Int))))) rfl (fun _ => by kernel_rfl) ?_)
    refine Xg.ops_op (by kernel_rfl) (Xg.opx_int .i64 (IntKind.wrap .i64 (((2 : Int) * band IntKind.i64 row (7 : Int)))) rfl (fun _ => by kernel_rfl) (Xg.wrap_i64_in (by omega)) ?_)
    refine Xg.ops_op (by kernel_rfl) (Xg.opx_int .i64 (IntKind.wrap .i64 (((16 : Int) * bor IntKind.i64 (bclr IntKind.i64 s.tile (1 : Int)) (row / (8 : Int)) + (2 : Int) * band IntKind.i64 row (7 : Int)))) rfl (fun _ => by kernel_rfl) (Xg.wrap_i64_in (by omega)) ?_)
    refine Xg.ops_op (by kernel_rfl) (Xg.opx_pure ((iv ((7 : Int) - col))) rfl (fun _ => by kernel_rfl) ?_)
    refine Xg.ops_op (by kernel_rfl) (Xg.opx_call1' [0] [PpR p σ, Sl.row xb1 (105 : Nat) [iv s.row, iv s.column, iv s.tile, iv s.flags]] (fun _ => by kernel_rfl) (@Go.Proofs.Ytkfclamiendamaa.number_d (p) (σ) (by omega) (((16 : Int) * bor IntKind.i64 (bclr IntKind.i64 s.tile (1 : Int)) (row / (8 : Int)) + (2 : Int) * band IntKind.i64 row (7 : Int))) (((7 : Int) - col)) (by omega)) (by kernel_rfl) (by kernel_rfl) (by kernel_rfl) ?_)
    refine Xg.ops_op (by kernel_rfl) (Xg.opx_pure ((iv (numI σ ((16 : Int) * bor IntKind.i64 (bclr IntKind.i64 s.tile (1 : Int)) (row / (8 : Int)) + (2 : Int) * band IntKind.i64 row (7 : Int)).toNat ((7 : Int) - col)))) rfl (fun _ => by kernel_rfl) ?_)
    refine Xg.ops_nil ?_
    refine Xg.at_ret_ps (v := (iv (numI σ ((16 : Int) * bor IntKind.i64 (bclr IntKind.i64 s.tile (1 : Int)) (row / (8 : Int)) + (2 : Int) * band IntKind.i64 row (7 : Int)).toNat ((7 : Int) - col)))) [0] [PpR p σ] Go.Proofs.Try.func94 (fun _ => by kernel_rfl) (by kernel_rfl) (by kernel_rfl) ?_
    rotate_left
    refine Xg.at_skip ?_
    refine Xg.at_seq ?_
    refine Xg.at_region ?_
    refine Xg.ops_op (by kernel_rfl) (Xg.opx_pure ((pv p 0)) rfl (fun _ => by kernel_rfl) ?_)
    refine Xg.ops_op (by kernel_rfl) (Xg.opx_pure ((iv s.tile)) rfl (fun _ => by kernel_rfl) ?_)
    refine Xg.ops_op (by kernel_rfl) (Xg.opx_int .i64 (IntKind.wrap .i64 (((16 : Int) * s.tile))) rfl (fun _ => by kernel_rfl) (Xg.wrap_i64_in (by omega)) ?_)
    refine Xg.ops_op (by kernel_rfl) (Xg.opx_pure ((iv row)) rfl (fun _ => by kernel_rfl) ?_)
    refine Xg.ops_op (by kernel_rfl) (Xg.opx_pure (.int .i64 (Xg.band .i64 (row) (((7 : Int))))) rfl (fun _ => by kernel_rfl) ?_)
    refine Xg.ops_op (by kernel_rfl) (Xg.opx_int .i64 (IntKind.wrap .i64 (((2 : Int) * band IntKind.i64 row (7 : Int)))) rfl (fun _ => by kernel_rfl) (Xg.wrap_i64_in (by omega)) ?_)
    refine Xg.ops_op (by kernel_rfl) (Xg.opx_int .i64 (IntKind.wrap .i64 (((16 : Int) * s.tile + (2 : Int) * band IntKind.i64 row (7 : Int)))) rfl (fun _ => by kernel_rfl) (Xg.wrap_i64_in (by omega)) ?_)
    refine Xg.ops_op (by kernel_rfl) (Xg.opx_pure ((iv ((7 : Int) - col))) rfl (fun _ => by kernel_rfl) ?_)
    refine Xg.ops_op (by kernel_rfl) (Xg.opx_call1' [0] [PpR p σ, Sl.row xb1 (105 : Nat) [iv s.row, iv s.column, iv s.tile, iv s.flags]] (fun _ => by kernel_rfl) (@Go.Proofs.Ytkfclamiendamaa.number_d (p) (σ) (by omega) (((16 : Int) * s.tile + (2 : Int) * band IntKind.i64 row (7 : Int))) (((7 : Int) - col)) (by omega)) (by kernel_rfl) (by kernel_rfl) (by kernel_rfl) ?_)
    refine Xg.ops_op (by kernel_rfl) (Xg.opx_pure ((iv (numI σ ((16 : Int) * s.tile + (2 : Int) * band IntKind.i64 row (7 : Int)).toNat ((7 : Int) - col)))) rfl (fun _ => by kernel_rfl) ?_)
    refine Xg.ops_nil ?_
    refine Xg.at_ret_ps (v := (iv (numI σ ((16 : Int) * s.tile + (2 : Int) * band IntKind.i64 row (7 : Int)).toNat ((7 : Int) - col)))) [0] [PpR p σ] Go.Proofs.Try.func94 (fun _ => by kernel_rfl) (by kernel_rfl) (by kernel_rfl) ?_
    rotate_left
    refine Xg.at_skip ?_
    refine Xg.at_seq ?_
    refine Xg.at_region ?_
    refine Xg.ops_op (by kernel_rfl) (Xg.opx_pure ((pv xb1 2)) rfl (fun _ => by kernel_rfl) ?_)
    refine Xg.ops_op (by kernel_rfl) (Xg.opx_load (b := xb1) (off := ((2 : Nat))) 0 (iv s.tile) rfl (by kernel_rfl) (by kernel_rfl) (by kernel_rfl) ?_)
    refine Xg.ops_op (by kernel_rfl) (Xg.opx_pure ((iv s.tile)) rfl (fun _ => by kernel_rfl) ?_)
    refine Xg.ops_nil ?_
    refine Xg.at_seq ?_
    refine Xg.at_seq ?_
    refine Xg.at_region ?_
    refine Xg.ops_op (by kernel_rfl) (Xg.opx_pure ((pv p 0)) rfl (fun _ => by kernel_rfl) ?_)
    refine Xg.ops_op (by kernel_rfl) (Xg.opx_call1' [1] [PpR p σ, Sl.row xb1 (105 : Nat) [iv s.row, iv s.column, iv s.tile, iv s.flags]] (fun _ => by kernel_rfl) (@Go.Proofs.Ytkfclamiendamaa.has_2 (p) (σ) (by omega)) (by kernel_rfl) (by kernel_rfl) (by kernel_rfl) ?_)
    refine Xg.ops_nil ?_
    refine Xg.at_cond (t := (hasB (σ.regs 0) (2 : Nat))) (by kernel_rfl) (fun xh3 => ?_) (fun xh3 => ?_)
    refine Xg.at_region ?_
    refine Xg.ops_op (by kernel_rfl) (Xg.opx_pure ((iv s.tile)) rfl (fun _ => by kernel_rfl) ?_)
    refine Xg.ops_op (by kernel_rfl) (Xg.opx_pure (.int .i64 (Xg.bclr .i64 (s.tile) (((1 : Int))))) rfl (fun _ => by kernel_rfl) ?_)
    refine Xg.ops_op (by kernel_rfl) (Xg.opx_pure ((iv row)) rfl (fun _ => by kernel_rfl) ?_)
    refine Xg.ops_op (by kernel_rfl) (Xg.opx_int .i64 (Int.fdiv (row) 8) rfl (fun _ => by kernel_rfl) (Xg.shr_div _ 8 (by decide)) ?_)
    refine Xg.ops_op (by kernel_rfl) (Xg.opx_pure (.int .i64 (Xg.bor .i64 ((bclr IntKind.i64 s.tile (1 : Int))) ((row / (8 : Int))))) rfl (fun _ => by kernel_rfl) ?_)
    refine Xg.ops_op (by kernel_rfl) (Xg.opx_pure ((iv (bor IntKind.i64 (bclr IntKind.i64 s.tile (1 : Int)) (row / (8 : Int))))) rfl (fun _ => by kernel_rfl) ?_)
    refine Xg.ops_nil ?_
    refine Xg.at_seq ?_
    refine Xg.at_region ?_
    refine Xg.ops_op (by kernel_rfl) (Xg.opx_pure ((pv p 0)) rfl (fun _ => by kernel_rfl) ?_)
    refine Xg.ops_op (by kernel_rfl) (Xg.opx_pure ((iv (bor IntKind.i64 (bclr IntKind.i64 s.tile (1 : Int)) (row / (8 : Int))))) rfl (fun _ => by kernel_rfl) ?_)
    refine Xg.ops_op (by kernel_rfl) (Xg.opx_int .i64 (IntKind.wrap .i64 (((16 : Int) * bor IntKind.i64 (bclr IntKind.i64 s.tile (1 : Int)) (row / (8 : Int))))) rfl (fun _ => by kernel_rfl) (Xg.wrap_i64_in (by omega)) ?_)
    refine Xg.ops_op (by kernel_rfl) (Xg.opx_pure ((iv row)) rfl (fun _ => by kernel_rfl) ?_)
    refine Xg.ops_op (by kernel_rfl) (Xg.opx_pure (.int .i64 (Xg.band .i64 (row) (((7 : Int))))) rfl (fun _ => by kernel_rfl) ?_)
    refine Xg.ops_op (by kernel_rfl) (Xg.opx_int .i64 (IntKind.wrap .i64 (((2 : Int) * band IntKind.i64 row (7 : Int)))) rfl (fun _ => by kernel_rfl) (Xg.wrap_i64_in (by omega)) ?_)
    refine Xg.ops_op (by kernel_rfl) (Xg.opx_int .i64 (IntKind.wrap .i64 (((16 : Int) * bor IntKind.i64 (bclr IntKind.i64 s.tile (1 : Int)) (row / (8 : Int)) + (2 : Int) * band IntKind.i64 row (7 : Int)))) rfl (fun _ => by kernel_rfl) (Xg.wrap_i64_in (by omega)) ?_)
    refine Xg.ops_op (by kernel_rfl) (Xg.opx_pure ((iv col)) rfl (fun _ => by kernel_rfl) ?_)
    refine Xg.ops_op (by kernel_rfl) (Xg.opx_call1' [0] [PpR p σ, Sl.row xb1 (105 : Nat) [iv s.row, iv s.column, iv s.tile, iv s.flags]] (fun _ => by kernel_rfl) (@Go.Proofs.Ytkfclamiendamaa.number_d (p) (σ) (by omega) (((16 : Int) * bor IntKind.i64 (bclr IntKind.i64 s.tile (1 : Int)) (row / (8 : Int)) + (2 : Int) * band IntKind.i64 row (7 : Int))) (col) (by omega)) (by kernel_rfl) (by kernel_rfl) (by kernel_rfl) ?_)
    refine Xg.ops_op (by kernel_rfl) (Xg.opx_pure ((iv (numI σ ((16 : Int) * bor IntKind.i64 (bclr IntKind.i64 s.tile (1 : Int)) (row / (8 : Int)) + (2 : Int) * band IntKind.i64 row (7 : Int)).toNat col))) rfl (fun _ => by kernel_rfl) ?_)
    refine Xg.ops_nil ?_
    refine Xg.at_ret_ps (v := (iv (numI σ ((16 : Int) * bor IntKind.i64 (bclr IntKind.i64 s.tile (1 : Int)) (row / (8 : Int)) + (2 : Int) * band IntKind.i64 row (7 : Int)).toNat col))) [0] [PpR p σ] Go.Proofs.Try.func94 (fun _ => by kernel_rfl) (by kernel_rfl) (by kernel_rfl) ?_
    rotate_left
    refine Xg.at_skip ?_
    refine Xg.at_seq ?_
    refine Xg.at_region ?_
    refine Xg.ops_op (by kernel_rfl) (Xg.opx_pure ((pv p 0)) rfl (fun _ => by kernel_rfl) ?_)
    refine Xg.ops_op (by kernel_rfl) (Xg.opx_pure ((iv s.tile)) rfl (fun _ => by kernel_rfl) ?_)
    refine Xg.ops_op (by kernel_rfl) (Xg.opx_int .i64 (IntKind.wrap .i64 (((16 : Int) * s.tile))) rfl (fun _ => by kernel_rfl) (Xg.wrap_i64_in (by omega)) ?_)
    refine Xg.ops_op (by kernel_rfl) (Xg.opx_pure ((iv row)) rfl (fun _ => by kernel_rfl) ?_)
    refine Xg.ops_op (by kernel_rfl) (Xg.opx_pure (.int .i64 (Xg.band .i64 (row) (((7 : Int))))) rfl (fun _ => by kernel_rfl) ?_)
    refine Xg.ops_op (by kernel_rfl) (Xg.opx_int .i64 (IntKind.wrap .i64 (((2 : Int) * band IntKind.i64 row (7 : Int)))) rfl (fun _ => by kernel_rfl) (Xg.wrap_i64_in (by omega)) ?_)
    refine Xg.ops_op (by kernel_rfl) (Xg.opx_int .i64 (IntKind.wrap .i64 (((16 : Int) * s.tile + (2 : Int) * band IntKind.i64 row (7 : Int)))) rfl (fun _ => by kernel_rfl) (Xg.wrap_i64_in (by omega)) ?_)
    refine Xg.ops_op (by kernel_rfl) (Xg.opx_pure ((iv col)) rfl (fun _ => by kernel_rfl) ?_)
    refine Xg.ops_op (by kernel_rfl) (Xg.opx_call1' [0] [PpR p σ, Sl.row xb1 (105 : Nat) [iv s.row, iv s.column, iv s.tile, iv s.flags]] (fun _ => by kernel_rfl) (@Go.Proofs.Ytkfclamiendamaa.number_d (p) (σ) (by omega) (((16 : Int) * s.tile + (2 : Int) * band IntKind.i64 row (7 : Int))) (col) (by omega)) (by kernel_rfl) (by kernel_rfl) (by kernel_rfl) ?_)
    refine Xg.ops_op (by kernel_rfl) (Xg.opx_pure ((iv (numI σ ((16 : Int) * s.tile + (2 : Int) * band IntKind.i64 row (7 : Int)).toNat col))) rfl (fun _ => by kernel_rfl) ?_)
    refine Xg.ops_nil ?_
    refine Xg.at_ret_ps (v := (iv (numI σ ((16 : Int) * s.tile + (2 : Int) * band IntKind.i64 row (7 : Int)).toNat col))) [0] [PpR p σ] Go.Proofs.Try.func94 (fun _ => by kernel_rfl) (by kernel_rfl) (by kernel_rfl) ?_)
  all_goals
    refine ⟨congrArg (Value.int .i64) ?_, rfl⟩
    simp [pointI, rowI, colI, *]

end Go.Proofs.Ytkfclamiendamaa
