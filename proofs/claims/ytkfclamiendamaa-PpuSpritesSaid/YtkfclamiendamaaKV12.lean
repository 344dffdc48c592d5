/- The picture's functions: tiles, sprites. -/
import Derived.Test.YtkfclamiendamaaKV11
import Derived.Test.YtkfclamiendamaaKS
import Derived.Test.YtkfclamiendamaaG15
namespace Go.Proofs.Ytkfclamiendamaa
open Go.Sl Go.Xg
set_option linter.unusedVariables false
set_option linter.unusedSimpArgs false
set_option maxHeartbeats 4000000
set_option maxRecDepth 100000

def heightI (σ : Pp) : Int := if hasB (σ.regs 0) 2 = true then 16 else 8
theorem height_d (p : Nat) (σ : Pp) (h : 0 ≤ σ.regs 0 ∧ σ.regs 0 ≤ 255) : Does Try.prog 92 [pt p] [PpR p σ] (Ret (.int .i64 (heightI σ)) [PpR p σ]) := by
  (focus
    refine Xg.spec_of Go.Proofs.Try.func92 rfl Go.Proofs.Try.ntmps92 fun g F => ?_)
  (focus
    refine Xg.at_seq ?_
    refine Xg.at_region ?_
    refine Xg.ops_op (by kernel_rfl) (Xg.opx_pure ((iv 0)) rfl (fun _ => by kernel_rfl) ?_)
    refine Xg.ops_nil ?_
    refine Xg.at_seq ?_
    refine Xg.at_seq ?_
    refine Xg.at_region ?_
    refine Xg.ops_op (by kernel_rfl) (Xg.opx_pure ((pv p 0)) rfl (fun _ => by kernel_rfl) ?_)
    refine Xg.ops_op (by kernel_rfl) (Xg.opx_call1' [0] [PpR p σ] (fun _ => by kernel_rfl) (@Go.Proofs.Ytkfclamiendamaa.has_2 (p) (σ) (by omega)) (by kernel_rfl) (by kernel_rfl) (by kernel_rfl) ?_)
    refine Xg.ops_nil ?_
    refine Xg.at_cond (t := (hasB (σ.regs 0) (2 : Nat))) (by kernel_rfl) (fun xh1 => ?_) (fun xh1 => ?_)
    refine Xg.at_seq ?_
    refine Xg.at_region ?_
    refine Xg.ops_op (by kernel_rfl) (Xg.opx_pure ((iv 16)) rfl (fun _ => by kernel_rfl) ?_)
    refine Xg.ops_nil ?_
    refine Xg.at_ret_ps (v := (iv 16)) [0] [PpR p σ] Go.Proofs.Try.func92 (fun _ => by kernel_rfl) (by kernel_rfl) (by kernel_rfl) ?_
    rotate_left
    refine Xg.at_skip ?_
    refine Xg.at_seq ?_
    refine Xg.at_region ?_
    refine Xg.ops_op (by kernel_rfl) (Xg.opx_pure ((iv 8)) rfl (fun _ => by kernel_rfl) ?_)
    refine Xg.ops_nil ?_
    refine Xg.at_ret_ps (v := (iv 8)) [0] [PpR p σ] Go.Proofs.Try.func92 (fun _ => by kernel_rfl) (by kernel_rfl) (by kernel_rfl) ?_)
  all_goals exact ⟨by simp [heightI, *], rfl⟩

theorem wrap_i8 {n : Int} (h : 0 ≤ n ∧ n ≤ 255) : IntKind.wrap .i8 n = if n < 128 then n else n - 256 := by
  simp only [IntKind.wrap, IntKind.bits, IntKind.signed]
  simp
  split <;> split <;> omega

/-- The place of a tile's first row. -/
def placeI (σ : Pp) (n : Int) : Int := if hasB (σ.regs 0) 4 = true then 16 * n else 4096 + 16 * (if n < 128 then n else n - 256)
theorem placeI_bd (σ : Pp) {n : Int} (h : 0 ≤ n ∧ n ≤ 255) : 0 ≤ placeI σ n ∧ placeI σ n ≤ 6128 := by
  unfold placeI
  (repeat' split) <;> omega
def tileI (σ : Pp) (high : Bool) (row col : Int) : Int :=
  numI σ (placeI σ (σ.vram ((if high = true then 7168 else 6144) + row / 8 * 32 + col / 8).toNat) + 2 * (row % 8)).toNat col

set_option maxHeartbeats 0 in
theorem tile_d (p : Nat) (σ : Pp) (hσ : σ.Wf) (high : Bool) (row col : Int) (hr : 0 ≤ row ∧ row ≤ 255) (hc : 0 ≤ col ∧ col ≤ 255) : Does Try.prog 76 [pt p, .bool high, .int .i64 row, .int .i64 col] [PpR p σ] (Ret (.int .i64 (tileI σ high row col)) [PpR p σ]) := by
  have h0 := hσ.regs 0
  have h7 := band_7 row
  have hm := hσ.vram (6144 + row / 8 * 32 + col / 8).toNat
  have hM := hσ.vram (7168 + row / 8 * 32 + col / 8).toNat
  have w1 := wrap_i8 hm
  have w2 := wrap_i8 hM
  have hw1 : -128 ≤ IntKind.wrap .i8 (σ.vram (6144 + row / 8 * 32 + col / 8).toNat) ∧ IntKind.wrap .i8 (σ.vram (6144 + row / 8 * 32 + col / 8).toNat) ≤ 127 := by rw [w1]; split <;> omega
  have hw2 : -128 ≤ IntKind.wrap .i8 (σ.vram (7168 + row / 8 * 32 + col / 8).toNat) ∧ IntKind.wrap .i8 (σ.vram (7168 + row / 8 * 32 + col / 8).toNat) ≤ 127 := by rw [w2]; split <;> omega
  have p1 := placeI_bd σ hm
  have p2 := placeI_bd σ hM
  cases high with
  | false =>
    (focus
      refine Xg.spec_of Go.Proofs.Try.func76 rfl Go.Proofs.Try.ntmps76 fun g F => ?_)
    (focus
      refine Xg.at_seq ?_
      refine Xg.at_region ?_
      refine Xg.ops_op (by kernel_rfl) (Xg.opx_pure ((iv 0)) rfl (fun _ => by kernel_rfl) ?_)
      refine Xg.ops_nil ?_
      refine Xg.at_seq ?_
      refine Xg.at_region ?_
      refine Xg.ops_op (by kernel_rfl) (Xg.opx_pure ((iv 6144)) rfl (fun _ => by kernel_rfl) ?_)
      refine Xg.ops_nil ?_
      refine Xg.at_seq ?_
      refine Xg.at_seq ?_
      refine Xg.at_region ?_
      refine Xg.ops_op (by kernel_rfl) (Xg.opx_pure ((Value.bool false)) rfl (fun _ => by kernel_rfl) ?_)
      refine Xg.ops_nil ?_
      refine Xg.at_false (t := false) (by kernel_rfl) rfl ?_
      refine Xg.at_skip ?_
      refine Xg.at_seq ?_
      refine Xg.at_region ?_
      refine Xg.ops_op (by kernel_rfl) (Xg.opx_pure ((pv p 0)) rfl (fun _ => by kernel_rfl) ?_)
      refine Xg.ops_op (by kernel_rfl) (Xg.opx_pure ((iv 6144)) rfl (fun _ => by kernel_rfl) ?_)
      refine Xg.ops_op (by kernel_rfl) (Xg.opx_pure ((iv row)) rfl (fun _ => by kernel_rfl) ?_)
      refine Xg.ops_op (by kernel_rfl) (Xg.opx_int .i64 (Int.fdiv (row) 8) rfl (fun _ => by kernel_rfl) (Xg.shr_div _ 8 (by decide)) ?_)
      refine Xg.ops_op (by kernel_rfl) (Xg.opx_int .i64 (IntKind.wrap .i64 ((row / (8 : Int) * (32 : Int)))) rfl (fun _ => by kernel_rfl) (Xg.wrap_i64_in (by omega)) ?_)
      refine Xg.ops_op (by kernel_rfl) (Xg.opx_int .i64 (IntKind.wrap .i64 (((6144 : Int) + row / (8 : Int) * (32 : Int)))) rfl (fun _ => by kernel_rfl) (Xg.wrap_i64_in (by omega)) ?_)
      refine Xg.ops_op (by kernel_rfl) (Xg.opx_pure ((iv col)) rfl (fun _ => by kernel_rfl) ?_)
      refine Xg.ops_op (by kernel_rfl) (Xg.opx_int .i64 (Int.fdiv (col) 8) rfl (fun _ => by kernel_rfl) (Xg.shr_div _ 8 (by decide)) ?_)
      refine Xg.ops_op (by kernel_rfl) (Xg.opx_int .i64 (IntKind.wrap .i64 (((6144 : Int) + row / (8 : Int) * (32 : Int) + col / (8 : Int)))) rfl (fun _ => by kernel_rfl) (Xg.wrap_i64_in (by omega)) ?_)
      refine Xg.ops_op (by kernel_rfl) (Xg.opx_pure ((pv p 0)) rfl (fun _ => by kernel_rfl) ?_)
      refine Xg.ops_op (by kernel_rfl) (Xg.opx_pure ((pv p 12)) rfl (fun _ => by kernel_rfl) ?_)
      refine Xg.ops_op (by kernel_rfl) (Xg.opx_run (.pointer (some (Addr.mk p ((12 : Nat) + ((6144 : Int) + row / (8 : Int) * (32 : Int) + col / (8 : Int)).toNat) none))) rfl (Xg.run_ix_array' (elem := 5) (len := 8192) (b := p) (off := ((12 : Nat))) (kd := .i64) (e := ((6144 : Int) + row / (8 : Int) * (32 : Int) + col / (8 : Int))) 1 (((6144 : Int) + row / (8 : Int) * (32 : Int) + col / (8 : Int)).toNat) ((12 : Nat) + ((6144 : Int) + row / (8 : Int) * (32 : Int) + col / (8 : Int)).toNat) (by kernel_rfl) (by kernel_rfl) (by kernel_rfl) (by kernel_rfl) (by omega) (by omega) (by omega)) ?_)
      refine Xg.ops_op (by kernel_rfl) (Xg.opx_load (b := p) (off := ((12 : Nat) + ((6144 : Int) + row / (8 : Int) * (32 : Int) + col / (8 : Int)).toNat)) 0 (uv (σ.vram ((6144 : Int) + row / (8 : Int) * (32 : Int) + col / (8 : Int)).toNat)) rfl (by kernel_rfl) (@Go.Proofs.Ytkfclamiendamaa.g_vram (σ) ((((6144 : Int) + row / (8 : Int) * (32 : Int) + col / (8 : Int)).toNat)) (by omega)) (by kernel_rfl) ?_)
      refine Xg.ops_op (by kernel_rfl) (Xg.opx_int .i64 (IntKind.wrap .i64 ((σ.vram ((6144 : Int) + row / (8 : Int) * (32 : Int) + col / (8 : Int)).toNat))) rfl (fun _ => by kernel_rfl) (Xg.wrap_i64_in (by omega)) ?_)
      refine Xg.ops_op (by kernel_rfl) (Xg.opx_pure ((iv (σ.vram ((6144 : Int) + row / (8 : Int) * (32 : Int) + col / (8 : Int)).toNat))) rfl (fun _ => by kernel_rfl) ?_)
      refine Xg.ops_nil ?_
      refine Xg.at_seq ?_
      refine Xg.at_region ?_
      refine Xg.ops_op (by kernel_rfl) (Xg.opx_pure ((iv (σ.vram ((6144 : Int) + row / (8 : Int) * (32 : Int) + col / (8 : Int)).toNat))) rfl (fun _ => by kernel_rfl) ?_)
      refine Xg.ops_op (by kernel_rfl) (Xg.opx_int .i64 (IntKind.wrap .i64 (((16 : Int) * σ.vram ((6144 : Int) + row / (8 : Int) * (32 : Int) + col / (8 : Int)).toNat))) rfl (fun _ => by kernel_rfl) (Xg.wrap_i64_in (by omega)) ?_)
      refine Xg.ops_op (by kernel_rfl) (Xg.opx_pure ((iv ((16 : Int) * σ.vram ((6144 : Int) + row / (8 : Int) * (32 : Int) + col / (8 : Int)).toNat))) rfl (fun _ => by kernel_rfl) ?_)
      refine Xg.ops_nil ?_
      refine Xg.at_seq ?_
      refine Xg.at_seq ?_
      refine Xg.at_region ?_
      refine Xg.ops_op (by kernel_rfl) (Xg.opx_pure ((pv p 0)) rfl (fun _ => by kernel_rfl) ?_)
      refine Xg.ops_op (by kernel_rfl) (Xg.opx_call1' [0] [PpR p σ] (fun _ => by kernel_rfl) (@Go.Proofs.Ytkfclamiendamaa.has_4 (p) (σ) (by omega)) (by kernel_rfl) (by kernel_rfl) (by kernel_rfl) ?_)
      refine Xg.ops_op (by kernel_rfl) (Xg.opx_pure (.bool (!(hasB (σ.regs 0) (4 : Nat)))) rfl (fun _ => by kernel_rfl) ?_)
      refine Xg.ops_nil ?_
      refine Xg.at_cond (t := (!hasB (σ.regs 0) (4 : Nat))) (by kernel_rfl) (fun xh1 => ?_) (fun xh1 => ?_)
      replace xh1 : (hasB (σ.regs (0 : Nat)) (4 : Nat)) = false := by simpa using xh1
      rotate_left
      replace xh1 : (hasB (σ.regs (0 : Nat)) (4 : Nat)) = true := by simpa using xh1
      rotate_right
      refine Xg.at_region ?_
      refine Xg.ops_op (by kernel_rfl) (Xg.opx_pure ((iv (σ.vram ((6144 : Int) + row / (8 : Int) * (32 : Int) + col / (8 : Int)).toNat))) rfl (fun _ => by kernel_rfl) ?_)
      refine Xg.ops_op (by kernel_rfl) (Xg.opx_pure (.int .i8 (IntKind.wrap .i8 ((σ.vram ((6144 : Int) + row / (8 : Int) * (32 : Int) + col / (8 : Int)).toNat)))) rfl (fun _ => by kernel_rfl) ?_)
      refine Xg.ops_op (by kernel_rfl) (Xg.opx_int .i64 (IntKind.wrap .i64 ((IntKind.i8.wrap (σ.vram ((6144 : Int) + row / (8 : Int) * (32 : Int) + col / (8 : Int)).toNat)))) rfl (fun _ => by kernel_rfl) (Xg.wrap_i64_in (by omega)) ?_)
      refine Xg.ops_op (by kernel_rfl) (Xg.opx_int .i64 (IntKind.wrap .i64 (((16 : Int) * IntKind.i8.wrap (σ.vram ((6144 : Int) + row / (8 : Int) * (32 : Int) + col / (8 : Int)).toNat)))) rfl (fun _ => by kernel_rfl) (Xg.wrap_i64_in (by omega)) ?_)
      refine Xg.ops_op (by kernel_rfl) (Xg.opx_int .i64 (IntKind.wrap .i64 (((4096 : Int) + (16 : Int) * IntKind.i8.wrap (σ.vram ((6144 : Int) + row / (8 : Int) * (32 : Int) + col / (8 : Int)).toNat)))) rfl (fun _ => by kernel_rfl) (Xg.wrap_i64_in (by omega)) ?_)
      refine Xg.ops_op (by kernel_rfl) (Xg.opx_pure ((iv ((4096 : Int) + (16 : Int) * IntKind.i8.wrap (σ.vram ((6144 : Int) + row / (8 : Int) * (32 : Int) + col / (8 : Int)).toNat)))) rfl (fun _ => by kernel_rfl) ?_)
      refine Xg.ops_nil ?_
      refine Xg.at_seq ?_
      refine Xg.at_region ?_
      refine Xg.ops_op (by kernel_rfl) (Xg.opx_pure ((pv p 0)) rfl (fun _ => by kernel_rfl) ?_)
      refine Xg.ops_op (by kernel_rfl) (Xg.opx_pure ((iv ((4096 : Int) + (16 : Int) * IntKind.i8.wrap (σ.vram ((6144 : Int) + row / (8 : Int) * (32 : Int) + col / (8 : Int)).toNat)))) rfl (fun _ => by kernel_rfl) ?_)
      refine Xg.ops_op (by kernel_rfl) (Xg.opx_pure ((iv row)) rfl (fun _ => by kernel_rfl) ?_)
      refine Xg.ops_op (by kernel_rfl) (Xg.opx_pure (.int .i64 (Xg.band .i64 (row) (((7 : Int))))) rfl (fun _ => by kernel_rfl) ?_)
      refine Xg.ops_op (by kernel_rfl) (Xg.opx_int .i64 (IntKind.wrap .i64 (((2 : Int) * band IntKind.i64 row (7 : Int)))) rfl (fun _ => by kernel_rfl) (Xg.wrap_i64_in (by omega)) ?_)
      refine Xg.ops_op (by kernel_rfl) (Xg.opx_int .i64 (IntKind.wrap .i64 (((4096 : Int) + (16 : Int) * IntKind.i8.wrap (σ.vram ((6144 : Int) + row / (8 : Int) * (32 : Int) + col / (8 : Int)).toNat) + (2 : Int) * band IntKind.i64 row (7 : Int)))) rfl (fun _ => by kernel_rfl) (Xg.wrap_i64_in (by omega)) ?_)
      refine Xg.ops_op (by kernel_rfl) (Xg.opx_pure ((iv col)) rfl (fun _ => by kernel_rfl) ?_)
      refine Xg.ops_op (by kernel_rfl) (Xg.opx_call1' [0] [PpR p σ] (fun _ => by kernel_rfl) (@Go.Proofs.Ytkfclamiendamaa.number_d (p) (σ) (by omega) (((4096 : Int) + (16 : Int) * IntKind.i8.wrap (σ.vram ((6144 : Int) + row / (8 : Int) * (32 : Int) + col / (8 : Int)).toNat) + (2 : Int) * band IntKind.i64 row (7 : Int))) (col) (by omega)) (by kernel_rfl) (by kernel_rfl) (by kernel_rfl) ?_)
      refine Xg.ops_op (by kernel_rfl) (Xg.opx_pure ((iv (numI σ ((4096 : Int) + (16 : Int) * IntKind.i8.wrap (σ.vram ((6144 : Int) + row / (8 : Int) * (32 : Int) + col / (8 : Int)).toNat) + (2 : Int) * band IntKind.i64 row (7 : Int)).toNat col))) rfl (fun _ => by kernel_rfl) ?_)
      refine Xg.ops_nil ?_
      refine Xg.at_ret_ps (v := (iv (numI σ ((4096 : Int) + (16 : Int) * IntKind.i8.wrap (σ.vram ((6144 : Int) + row / (8 : Int) * (32 : Int) + col / (8 : Int)).toNat) + (2 : Int) * band IntKind.i64 row (7 : Int)).toNat col))) [0] [PpR p σ] Go.Proofs.Try.func76 (fun _ => by kernel_rfl) (by kernel_rfl) (by kernel_rfl) ?_
      rotate_left
      refine Xg.at_skip ?_
      refine Xg.at_seq ?_
      refine Xg.at_region ?_
      refine Xg.ops_op (by kernel_rfl) (Xg.opx_pure ((pv p 0)) rfl (fun _ => by kernel_rfl) ?_)
      refine Xg.ops_op (by kernel_rfl) (Xg.opx_pure ((iv ((16 : Int) * σ.vram ((6144 : Int) + row / (8 : Int) * (32 : Int) + col / (8 : Int)).toNat))) rfl (fun _ => by kernel_rfl) ?_)
      refine Xg.ops_op (by kernel_rfl) (Xg.opx_pure ((iv row)) rfl (fun _ => by kernel_rfl) ?_)
      refine Xg.ops_op (by kernel_rfl) (Xg.opx_pure (.int .i64 (Xg.band .i64 (row) (((7 : Int))))) rfl (fun _ => by kernel_rfl) ?_)
      refine Xg.ops_op (by kernel_rfl) (Xg.opx_int .i64 (IntKind.wrap .i64 (((2 : Int) * band IntKind.i64 row (7 : Int)))) rfl (fun _ => by kernel_rfl) (Xg.wrap_i64_in (by omega)) ?_)
      refine Xg.ops_op (by kernel_rfl) (Xg.opx_int .i64 (IntKind.wrap .i64 (((16 : Int) * σ.vram ((6144 : Int) + row / (8 : Int) * (32 : Int) + col / (8 : Int)).toNat + (2 : Int) * band IntKind.i64 row (7 : Int)))) rfl (fun _ => by kernel_rfl) (Xg.wrap_i64_in (by omega)) ?_)
      refine Xg.ops_op (by kernel_rfl) (Xg.opx_pure ((iv col)) rfl (fun _ => by kernel_rfl) ?_)
      refine Xg.ops_op (by kernel_rfl) (Xg.opx_call1' [0] [PpR p σ] (fun _ => by kernel_rfl) (@Go.Proofs.Ytkfclamiendamaa.number_d (p) (σ) (by omega) (((16 : Int) * σ.vram ((6144 : Int) + row / (8 : Int) * (32 : Int) + col / (8 : Int)).toNat + (2 : Int) * band IntKind.i64 row (7 : Int))) (col) (by omega)) (by kernel_rfl) (by kernel_rfl) (by kernel_rfl) ?_)
      refine Xg.ops_op (by kernel_rfl) (Xg.opx_pure ((iv (numI σ ((16 : Int) * σ.vram ((6144 : Int) + row / (8 : Int) * (32 : Int) + col / (8 : Int)).toNat + (2 : Int) * band IntKind.i64 row (7 : Int)).toNat col))) rfl (fun _ => by kernel_rfl) ?_)
      refine Xg.ops_nil ?_
      refine Xg.at_ret_ps (v := (iv (numI σ ((16 : Int) * σ.vram ((6144 : Int) + row / (8 : Int) * (32 : Int) + col / (8 : Int)).toNat + (2 : Int) * band IntKind.i64 row (7 : Int)).toNat col))) [0] [PpR p σ] Go.Proofs.Try.func76 (fun _ => by kernel_rfl) (by kernel_rfl) (by kernel_rfl) ?_)
    all_goals
      refine ⟨congrArg (Value.int .i64) ?_, rfl⟩
      unfold tileI placeI
      simp only [h7, w1, *]
      rfl
  | true =>
    (focus
      refine Xg.spec_of Go.Proofs.Try.func76 rfl Go.Proofs.Try.ntmps76 fun g F => ?_)
    (focus
      refine Xg.at_seq ?_
      refine Xg.at_region ?_
      refine Xg.ops_op (by kernel_rfl) (Xg.opx_pure ((iv 0)) rfl (fun _ => by kernel_rfl) ?_)
      refine Xg.ops_nil ?_
      refine Xg.at_seq ?_
      refine Xg.at_region ?_
      refine Xg.ops_op (by kernel_rfl) (Xg.opx_pure ((iv 6144)) rfl (fun _ => by kernel_rfl) ?_)
      refine Xg.ops_nil ?_
      refine Xg.at_seq ?_
      refine Xg.at_seq ?_
      refine Xg.at_region ?_
      refine Xg.ops_op (by kernel_rfl) (Xg.opx_pure ((Value.bool true)) rfl (fun _ => by kernel_rfl) ?_)
      refine Xg.ops_nil ?_
      refine Xg.at_true (t := true) (by kernel_rfl) rfl ?_
      refine Xg.at_region ?_
      refine Xg.ops_op (by kernel_rfl) (Xg.opx_pure ((iv 7168)) rfl (fun _ => by kernel_rfl) ?_)
      refine Xg.ops_nil ?_
      refine Xg.at_seq ?_
      refine Xg.at_region ?_
      refine Xg.ops_op (by kernel_rfl) (Xg.opx_pure ((pv p 0)) rfl (fun _ => by kernel_rfl) ?_)
      refine Xg.ops_op (by kernel_rfl) (Xg.opx_pure ((iv 7168)) rfl (fun _ => by kernel_rfl) ?_)
      refine Xg.ops_op (by kernel_rfl) (Xg.opx_pure ((iv row)) rfl (fun _ => by kernel_rfl) ?_)
      refine Xg.ops_op (by kernel_rfl) (Xg.opx_int .i64 (Int.fdiv (row) 8) rfl (fun _ => by kernel_rfl) (Xg.shr_div _ 8 (by decide)) ?_)
      refine Xg.ops_op (by kernel_rfl) (Xg.opx_int .i64 (IntKind.wrap .i64 ((row / (8 : Int) * (32 : Int)))) rfl (fun _ => by kernel_rfl) (Xg.wrap_i64_in (by omega)) ?_)
      refine Xg.ops_op (by kernel_rfl) (Xg.opx_int .i64 (IntKind.wrap .i64 (((7168 : Int) + row / (8 : Int) * (32 : Int)))) rfl (fun _ => by kernel_rfl) (Xg.wrap_i64_in (by omega)) ?_)
      refine Xg.ops_op (by kernel_rfl) (Xg.opx_pure ((iv col)) rfl (fun _ => by kernel_rfl) ?_)
      refine Xg.ops_op (by kernel_rfl) (Xg.opx_int .i64 (Int.fdiv (col) 8) rfl (fun _ => by kernel_rfl) (Xg.shr_div _ 8 (by decide)) ?_)
      refine Xg.ops_op (by kernel_rfl) (Xg.opx_int .i64 (IntKind.wrap .i64 (((7168 : Int) + row / (8 : Int) * (32 : Int) + col / (8 : Int)))) rfl (fun _ => by kernel_rfl) (Xg.wrap_i64_in (by omega)) ?_)
      refine Xg.ops_op (by kernel_rfl) (Xg.opx_pure ((pv p 0)) rfl (fun _ => by kernel_rfl) ?_)
      refine Xg.ops_op (by kernel_rfl) (Xg.opx_pure ((pv p 12)) rfl (fun _ => by kernel_rfl) ?_)
      refine Xg.ops_op (by kernel_rfl) (Xg.opx_run (.pointer (some (Addr.mk p ((12 : Nat) + ((7168 : Int) + row / (8 : Int) * (32 : Int) + col / (8 : Int)).toNat) none))) rfl (Xg.run_ix_array' (elem := 5) (len := 8192) (b := p) (off := ((12 : Nat))) (kd := .i64) (e := ((7168 : Int) + row / (8 : Int) * (32 : Int) + col / (8 : Int))) 1 (((7168 : Int) + row / (8 : Int) * (32 : Int) + col / (8 : Int)).toNat) ((12 : Nat) + ((7168 : Int) + row / (8 : Int) * (32 : Int) + col / (8 : Int)).toNat) (by kernel_rfl) (by kernel_rfl) (by kernel_rfl) (by kernel_rfl) (by omega) (by omega) (by omega)) ?_)
      refine Xg.ops_op (by kernel_rfl) (Xg.opx_load (b := p) (off := ((12 : Nat) + ((7168 : Int) + row / (8 : Int) * (32 : Int) + col / (8 : Int)).toNat)) 0 (uv (σ.vram ((7168 : Int) + row / (8 : Int) * (32 : Int) + col / (8 : Int)).toNat)) rfl (by kernel_rfl) (@Go.Proofs.Ytkfclamiendamaa.g_vram (σ) ((((7168 : Int) + row / (8 : Int) * (32 : Int) + col / (8 : Int)).toNat)) (by omega)) (by kernel_rfl) ?_)
      refine Xg.ops_op (by kernel_rfl) (Xg.opx_int .i64 (IntKind.wrap .i64 ((σ.vram ((7168 : Int) + row / (8 : Int) * (32 : Int) + col / (8 : Int)).toNat))) rfl (fun _ => by kernel_rfl) (Xg.wrap_i64_in (by omega)) ?_)
      refine Xg.ops_op (by kernel_rfl) (Xg.opx_pure ((iv (σ.vram ((7168 : Int) + row / (8 : Int) * (32 : Int) + col / (8 : Int)).toNat))) rfl (fun _ => by kernel_rfl) ?_)
      refine Xg.ops_nil ?_
      refine Xg.at_seq ?_
      refine Xg.at_region ?_
      refine Xg.ops_op (by kernel_rfl) (Xg.opx_pure ((iv (σ.vram ((7168 : Int) + row / (8 : Int) * (32 : Int) + col / (8 : Int)).toNat))) rfl (fun _ => by kernel_rfl) ?_)
      refine Xg.ops_op (by kernel_rfl) (Xg.opx_int .i64 (IntKind.wrap .i64 (((16 : Int) * σ.vram ((7168 : Int) + row / (8 : Int) * (32 : Int) + col / (8 : Int)).toNat))) rfl (fun _ => by kernel_rfl) (Xg.wrap_i64_in (by omega)) ?_)
      refine Xg.ops_op (by kernel_rfl) (Xg.opx_pure ((iv ((16 : Int) * σ.vram ((7168 : Int) + row / (8 : Int) * (32 : Int) + col / (8 : Int)).toNat))) rfl (fun _ => by kernel_rfl) ?_)
      refine Xg.ops_nil ?_
      refine Xg.at_seq ?_
      refine Xg.at_seq ?_
      refine Xg.at_region ?_
      refine Xg.ops_op (by kernel_rfl) (Xg.opx_pure ((pv p 0)) rfl (fun _ => by kernel_rfl) ?_)
      refine Xg.ops_op (by kernel_rfl) (Xg.opx_call1' [0] [PpR p σ] (fun _ => by kernel_rfl) (@Go.Proofs.Ytkfclamiendamaa.has_4 (p) (σ) (by omega)) (by kernel_rfl) (by kernel_rfl) (by kernel_rfl) ?_)
      refine Xg.ops_op (by kernel_rfl) (Xg.opx_pure (.bool (!(hasB (σ.regs 0) (4 : Nat)))) rfl (fun _ => by kernel_rfl) ?_)
      refine Xg.ops_nil ?_
      refine Xg.at_cond (t := (!hasB (σ.regs 0) (4 : Nat))) (by kernel_rfl) (fun xh1 => ?_) (fun xh1 => ?_)
      replace xh1 : (hasB (σ.regs (0 : Nat)) (4 : Nat)) = false := by simpa using xh1
      rotate_left
      replace xh1 : (hasB (σ.regs (0 : Nat)) (4 : Nat)) = true := by simpa using xh1
      rotate_right
      refine Xg.at_region ?_
      refine Xg.ops_op (by kernel_rfl) (Xg.opx_pure ((iv (σ.vram ((7168 : Int) + row / (8 : Int) * (32 : Int) + col / (8 : Int)).toNat))) rfl (fun _ => by kernel_rfl) ?_)
      refine Xg.ops_op (by kernel_rfl) (Xg.opx_pure (.int .i8 (IntKind.wrap .i8 ((σ.vram ((7168 : Int) + row / (8 : Int) * (32 : Int) + col / (8 : Int)).toNat)))) rfl (fun _ => by kernel_rfl) ?_)
      refine Xg.ops_op (by kernel_rfl) (Xg.opx_int .i64 (IntKind.wrap .i64 ((IntKind.i8.wrap (σ.vram ((7168 : Int) + row / (8 : Int) * (32 : Int) + col / (8 : Int)).toNat)))) rfl (fun _ => by kernel_rfl) (Xg.wrap_i64_in (by omega)) ?_)
      refine Xg.ops_op (by kernel_rfl) (Xg.opx_int .i64 (IntKind.wrap .i64 (((16 : Int) * IntKind.i8.wrap (σ.vram ((7168 : Int) + row / (8 : Int) * (32 : Int) + col / (8 : Int)).toNat)))) rfl (fun _ => by kernel_rfl) (Xg.wrap_i64_in (by omega)) ?_)
      refine Xg.ops_op (by kernel_rfl) (Xg.opx_int .i64 (IntKind.wrap .i64 (((4096 : Int) + (16 : Int) * IntKind.i8.wrap (σ.vram ((7168 : Int) + row / (8 : Int) * (32 : Int) + col / (8 : Int)).toNat)))) rfl (fun _ => by kernel_rfl) (Xg.wrap_i64_in (by omega)) ?_)
      refine Xg.ops_op (by kernel_rfl) (Xg.opx_pure ((iv ((4096 : Int) + (16 : Int) * IntKind.i8.wrap (σ.vram ((7168 : Int) + row / (8 : Int) * (32 : Int) + col / (8 : Int)).toNat)))) rfl (fun _ => by kernel_rfl) ?_)
      refine Xg.ops_nil ?_
      refine Xg.at_seq ?_
      refine Xg.at_region ?_
      refine Xg.ops_op (by kernel_rfl) (Xg.opx_pure ((pv p 0)) rfl (fun _ => by kernel_rfl) ?_)
      refine Xg.ops_op (by kernel_rfl) (Xg.opx_pure ((iv ((4096 : Int) + (16 : Int) * IntKind.i8.wrap (σ.vram ((7168 : Int) + row / (8 : Int) * (32 : Int) + col / (8 : Int)).toNat)))) rfl (fun _ => by kernel_rfl) ?_)
      refine Xg.ops_op (by kernel_rfl) (Xg.opx_pure ((iv row)) rfl (fun _ => by kernel_rfl) ?_)
      refine Xg.ops_op (by kernel_rfl) (Xg.opx_pure (.int .i64 (Xg.band .i64 (row) (((7 : Int))))) rfl (fun _ => by kernel_rfl) ?_)
      refine Xg.ops_op (by kernel_rfl) (Xg.opx_int .i64 (IntKind.wrap .i64 (((2 : Int) * band IntKind.i64 row (7 : Int)))) rfl (fun _ => by kernel_rfl) (Xg.wrap_i64_in (by omega)) ?_)
      refine Xg.ops_op (by kernel_rfl) (Xg.opx_int .i64 (IntKind.wrap .i64 (((4096 : Int) + (16 : Int) * IntKind.i8.wrap (σ.vram ((7168 : Int) + row / (8 : Int) * (32 : Int) + col / (8 : Int)).toNat) + (2 : Int) * band IntKind.i64 row (7 : Int)))) rfl (fun _ => by kernel_rfl) (Xg.wrap_i64_in (by omega)) ?_)
      refine Xg.ops_op (by kernel_rfl) (Xg.opx_pure ((iv col)) rfl (fun _ => by kernel_rfl) ?_)
      refine Xg.ops_op (by kernel_rfl) (Xg.opx_call1' [0] [PpR p σ] (fun _ => by kernel_rfl) (@Go.Proofs.Ytkfclamiendamaa.number_d (p) (σ) (by omega) (((4096 : Int) + (16 : Int) * IntKind.i8.wrap (σ.vram ((7168 : Int) + row / (8 : Int) * (32 : Int) + col / (8 : Int)).toNat) + (2 : Int) * band IntKind.i64 row (7 : Int))) (col) (by omega)) (by kernel_rfl) (by kernel_rfl) (by kernel_rfl) ?_)
      refine Xg.ops_op (by kernel_rfl) (Xg.opx_pure ((iv (numI σ ((4096 : Int) + (16 : Int) * IntKind.i8.wrap (σ.vram ((7168 : Int) + row / (8 : Int) * (32 : Int) + col / (8 : Int)).toNat) + (2 : Int) * band IntKind.i64 row (7 : Int)).toNat col))) rfl (fun _ => by kernel_rfl) ?_)
      refine Xg.ops_nil ?_
      refine Xg.at_ret_ps (v := (iv (numI σ ((4096 : Int) + (16 : Int) * IntKind.i8.wrap (σ.vram ((7168 : Int) + row / (8 : Int) * (32 : Int) + col / (8 : Int)).toNat) + (2 : Int) * band IntKind.i64 row (7 : Int)).toNat col))) [0] [PpR p σ] Go.Proofs.Try.func76 (fun _ => by kernel_rfl) (by kernel_rfl) (by kernel_rfl) ?_
      rotate_left
      refine Xg.at_skip ?_
      refine Xg.at_seq ?_
      refine Xg.at_region ?_
      refine Xg.ops_op (by kernel_rfl) (Xg.opx_pure ((pv p 0)) rfl (fun _ => by kernel_rfl) ?_)
      refine Xg.ops_op (by kernel_rfl) (Xg.opx_pure ((iv ((16 : Int) * σ.vram ((7168 : Int) + row / (8 : Int) * (32 : Int) + col / (8 : Int)).toNat))) rfl (fun _ => by kernel_rfl) ?_)
      refine Xg.ops_op (by kernel_rfl) (Xg.opx_pure ((iv row)) rfl (fun _ => by kernel_rfl) ?_)
      refine Xg.ops_op (by kernel_rfl) (Xg.opx_pure (.int .i64 (Xg.band .i64 (row) (((7 : Int))))) rfl (fun _ => by kernel_rfl) ?_)
      refine Xg.ops_op (by kernel_rfl) (Xg.opx_int .i64 (IntKind.wrap .i64 (((2 : Int) * band IntKind.i64 row (7 : Int)))) rfl (fun _ => by kernel_rfl) (Xg.wrap_i64_in (by omega)) ?_)
      refine Xg.ops_op (by kernel_rfl) (Xg.opx_int .i64 (IntKind.wrap .i64 (((16 : Int) * σ.vram ((7168 : Int) + row / (8 : Int) * (32 : Int) + col / (8 : Int)).toNat + (2 : Int) * band IntKind.i64 row (7 : Int)))) rfl (fun _ => by kernel_rfl) (Xg.wrap_i64_in (by omega)) ?_)
      refine Xg.ops_op (by kernel_rfl) (Xg.opx_pure ((iv col)) rfl (fun _ => by kernel_rfl) ?_)
      refine Xg.ops_op (by kernel_rfl) (Xg.opx_call1' [0] [PpR p σ] (fun _ => by kernel_rfl) (@Go.Proofs.Ytkfclamiendamaa.number_d (p) (σ) (by omega) (((16 : Int) * σ.vram ((7168 : Int) + row / (8 : Int) * (32 : Int) + col / (8 : Int)).toNat + (2 : Int) * band IntKind.i64 row (7 : Int))) (col) (by omega)) (by kernel_rfl) (by kernel_rfl) (by kernel_rfl) ?_)
      refine Xg.ops_op (by kernel_rfl) (Xg.opx_pure ((iv (numI σ ((16 : Int) * σ.vram ((7168 : Int) + row / (8 : Int) * (32 : Int) + col / (8 : Int)).toNat + (2 : Int) * band IntKind.i64 row (7 : Int)).toNat col))) rfl (fun _ => by kernel_rfl) ?_)
      refine Xg.ops_nil ?_
      refine Xg.at_ret_ps (v := (iv (numI σ ((16 : Int) * σ.vram ((7168 : Int) + row / (8 : Int) * (32 : Int) + col / (8 : Int)).toNat + (2 : Int) * band IntKind.i64 row (7 : Int)).toNat col))) [0] [PpR p σ] Go.Proofs.Try.func76 (fun _ => by kernel_rfl) (by kernel_rfl) (by kernel_rfl) ?_)
    all_goals
      refine ⟨congrArg (Value.int .i64) ?_, rfl⟩
      unfold tileI placeI
      simp only [h7, w2, *]
      rfl

end Go.Proofs.Ytkfclamiendamaa
