/- The picture's functions: points of tiles. -/
import Derived.Test.YtkfclamiendamaaKV4
import Derived.Test.YtkfclamiendamaaKS
namespace Go.Proofs.Ytkfclamiendamaa
open Go.Sl Go.Xg
set_option linter.unusedVariables false
set_option linter.unusedSimpArgs false
set_option maxHeartbeats 4000000
set_option maxRecDepth 100000

theorem band_3 (d : Int) : band .i64 d 3 = d % 4 := by
  show IntKind.i64.wrap _ = _
  have e : (BitVec.ofInt IntKind.i64.bits d &&& BitVec.ofInt IntKind.i64.bits 3).toNat = (d % 4).toNat := by
    show (BitVec.ofInt 64 d &&& BitVec.ofInt 64 ((3 : Nat) : Int)).toNat = _
    rw [ofInt_nat, BitVec.toNat_and, BitVec.toNat_ofNat, BitVec.toNat_ofInt]
    rw [show 3 % 2 ^ 64 = 2 ^ 2 - 1 from rfl, Nat.and_two_pow_sub_one_eq_mod]
    omega
  rw [e, wrap_i64_in (by omega)]
  omega
theorem band_7 (d : Int) : band .i64 d 7 = d % 8 := by
  show IntKind.i64.wrap _ = _
  have e : (BitVec.ofInt IntKind.i64.bits d &&& BitVec.ofInt IntKind.i64.bits 7).toNat = (d % 8).toNat := by
    show (BitVec.ofInt 64 d &&& BitVec.ofInt 64 ((7 : Nat) : Int)).toNat = _
    rw [ofInt_nat, BitVec.toNat_and, BitVec.toNat_ofNat, BitVec.toNat_ofInt]
    rw [show 7 % 2 ^ 64 = 2 ^ 3 - 1 from rfl, Nat.and_two_pow_sub_one_eq_mod]
    omega
  rw [e, wrap_i64_in (by omega)]
  omega

theorem band8_1 {x : Int} (h : 0 ≤ x ∧ x ≤ 255) : band .u8 x 1 = x % 2 := by
  obtain ⟨n, rfl⟩ := nat_of h.1
  have := band8 (x := n) (y := 1) (by omega) (by omega)
  rw [Nat.and_one_is_mod] at this
  have e : ((1 : Nat) : Int) = 1 := rfl
  rw [e] at this
  omega
theorem bit8_at {x : Int} (h : 0 ≤ x ∧ x ≤ 255) (i : Int) (j : Nat) (hi : i.toNat = j) (hj : j ≤ 7) : band .u8 (Int.fdiv x (2 ^ min (Int.toNat i) (IntKind.bits .u8))) 1 = x / 2 ^ j % 2 := by
  rw [hi, show min j (IntKind.bits .u8) = j from Nat.min_eq_left (by show j ≤ 8; omega)]
  rw [show Int.fdiv x (2 ^ j) = x / 2 ^ j from shr_div x _ (Int.pow_pos (by omega))]
  have hp : (0 : Int) < 2 ^ j := Int.pow_pos (by omega)
  have h2 : x / 2 ^ j ≤ x := Int.ediv_le_self _ h.1
  exact band8_1 ⟨Int.ediv_nonneg h.1 (Int.le_of_lt hp), by omega⟩

/-- A bit of a byte, from the left. -/
def bitL (x : Int) (col : Int) : Int := x / 2 ^ (7 - col % 8).toNat % 2
theorem bitL_bd (x col : Int) : 0 ≤ bitL x col ∧ bitL x col ≤ 1 := by unfold bitL; omega
/-- The number of a point: its row's place, the column. -/
def numI (σ : Pp) (place : Nat) (col : Int) : Int := bitL (σ.vram place) col + 2 * bitL (σ.vram (place + 1)) col
theorem numI_bd (σ : Pp) (place : Nat) (col : Int) : 0 ≤ numI σ place col ∧ numI σ place col ≤ 3 := by
  unfold numI
  have h1 := bitL_bd (σ.vram place) col
  have h2 := bitL_bd (σ.vram (place + 1)) col
  omega
theorem bor_12 {x y : Int} (hx : x = 0 ∨ x = 1) (hy : y = 0 ∨ y = 1) : bor .i64 x (y * 2) = x + 2 * y := by
  rcases hx with rfl | rfl <;> rcases hy with rfl | rfl <;> decide

set_option maxHeartbeats 0 in
theorem number_d (p : Nat) (σ : Pp) (hσ : σ.Wf) (place col : Int) (hp : 0 ≤ place ∧ place ≤ 8190) : Does Try.prog 93 [pt p, .int .i64 place, .int .i64 col] [PpR p σ] (Ret (.int .i64 (numI σ place.toNat col)) [PpR p σ]) := by
  have h7 := band_7 col
  have hm : 0 ≤ col % 8 ∧ col % 8 ≤ 7 := by omega
  have v0 := hσ.vram place.toNat
  have v1 := hσ.vram (place + 1).toNat
  have b0 := bit8_at (i := 7 - band .i64 col 7) v0 (7 - col % 8).toNat (by rw [h7]) (by omega)
  have b1 := bit8_at (i := 7 - band .i64 col 7) v1 (7 - col % 8).toNat (by rw [h7]) (by omega)
  (focus
    refine Xg.spec_of Go.Proofs.Try.func93 rfl Go.Proofs.Try.ntmps93 fun g F => ?_)
  (focus
    refine Xg.at_seq ?_
    refine Xg.at_region ?_
    refine Xg.ops_op (by kernel_rfl) (Xg.opx_pure ((iv 0)) rfl (fun _ => by kernel_rfl) ?_)
    refine Xg.ops_nil ?_
    refine Xg.at_seq ?_
    refine Xg.at_region ?_
    refine Xg.ops_op (by kernel_rfl) (Xg.opx_pure ((iv col)) rfl (fun _ => by kernel_rfl) ?_)
    refine Xg.ops_op (by kernel_rfl) (Xg.opx_pure (.int .i64 (Xg.band .i64 (col) (((7 : Int))))) rfl (fun _ => by kernel_rfl) ?_)
    refine Xg.ops_op (by kernel_rfl) (Xg.opx_int .i64 (IntKind.wrap .i64 (((7 : Int) - band IntKind.i64 col (7 : Int)))) rfl (fun _ => by kernel_rfl) (Xg.wrap_i64_in (by omega)) ?_)
    refine Xg.ops_op (by kernel_rfl) (Xg.opx_pure ((iv ((7 : Int) - band IntKind.i64 col (7 : Int)))) rfl (fun _ => by kernel_rfl) ?_)
    refine Xg.ops_nil ?_
    refine Xg.at_seq ?_
    refine Xg.at_draw [] [(5, [0, 1, 2, 3, 4, 5, 6, 10, 11, 12, 13, 14, 15, 16, 17, 18, 19, 20, 21], Xg.CellIs (p) (((12 : Nat) + place.toNat)) ((uv (σ.vram place.toNat)))), (16, [0, 1, 2, 3, 4, 5, 6, 7, 8, 9, 10, 11, 12, 13, 14, 15, 16, 17], Xg.CellIs (p) (((12 : Nat) + (place + (1 : Int)).toNat)) ((uv (σ.vram (place + (1 : Int)).toNat))))] (by kernel_rfl) ?_
    refine Xg.any_pure ((pv p 0)) 0 (by kernel_rfl) rfl (by kernel_rfl) (by kernel_rfl) (by kernel_rfl) (by kernel_rfl) rfl (fun _ => by kernel_rfl) ?_
    refine Xg.any_pure ((iv place)) 1 (by kernel_rfl) rfl (by kernel_rfl) (by kernel_rfl) (by kernel_rfl) (by kernel_rfl) rfl (fun _ => by kernel_rfl) ?_
    refine Xg.any_pure ((pv p 0)) 2 (by kernel_rfl) rfl (by kernel_rfl) (by kernel_rfl) (by kernel_rfl) (by kernel_rfl) rfl (fun _ => by kernel_rfl) ?_
    refine Xg.any_pure ((pv p 12)) 3 (by kernel_rfl) rfl (by kernel_rfl) (by kernel_rfl) (by kernel_rfl) (by kernel_rfl) rfl (fun _ => by kernel_rfl) ?_
    refine Xg.any_pure (.pointer (some (Addr.mk p ((12 : Nat) + place.toNat) none))) 4 (by kernel_rfl) rfl (by kernel_rfl) (by kernel_rfl) (by kernel_rfl) (by kernel_rfl) rfl (Xg.run_ix_array' (elem := 5) (len := 8192) (b := p) (off := ((12 : Nat))) (kd := .i64) (e := place) 1 place.toNat ((12 : Nat) + place.toNat) (by kernel_rfl) (by kernel_rfl) (by kernel_rfl) (by kernel_rfl) (by omega) (by omega) (by omega)) ?_
    refine Xg.any_reads (uv (σ.vram place.toNat)) 5 0 (by kernel_rfl) rfl (by kernel_rfl) (by kernel_rfl) (by kernel_rfl) (by kernel_rfl) rfl rfl (by kernel_rfl) (Xg.cell_now (b := p) (off := ((12 : Nat) + place.toNat)) 0 rfl (@Go.Proofs.Ytkfclamiendamaa.g_vram (σ) (place.toNat) (by omega))) (fun _ h => Xg.run_load (by kernel_rfl) (by kernel_rfl) h) ?_
    refine Xg.any_pure ((iv ((7 : Int) - band IntKind.i64 col (7 : Int)))) 6 (by kernel_rfl) rfl (by kernel_rfl) (by kernel_rfl) (by kernel_rfl) (by kernel_rfl) rfl (fun _ => by kernel_rfl) ?_
    refine Xg.any_pure (.int .u8 (Int.fdiv (σ.vram place.toNat) (2 ^ min (Int.toNat ((7 : Int) - band IntKind.i64 col (7 : Int))) (IntKind.bits .u8)))) 7 (by kernel_rfl) rfl (by kernel_rfl) (by kernel_rfl) (by kernel_rfl) (by kernel_rfl) rfl (fun _ => Xg.run_shr (k1 := .u8) (k2 := .i64) (m := (σ.vram place.toNat)) (e := ((7 : Int) - band IntKind.i64 col (7 : Int))) (by kernel_rfl) (by kernel_rfl) (by omega)) ?_
    refine Xg.any_pure (.int .u8 (Xg.band .u8 (((σ.vram place.toNat).fdiv ((2 : Int) ^ min ((7 : Int) - band IntKind.i64 col (7 : Int)).toNat IntKind.u8.bits))) (((1 : Int))))) 8 (by kernel_rfl) rfl (by kernel_rfl) (by kernel_rfl) (by kernel_rfl) (by kernel_rfl) rfl (fun _ => by kernel_rfl) ?_
    refine Xg.any_int .i64 (IntKind.wrap .i64 ((band IntKind.u8 ((σ.vram place.toNat).fdiv ((2 : Int) ^ min ((7 : Int) - band IntKind.i64 col (7 : Int)).toNat IntKind.u8.bits)) (1 : Int)))) 9 (by kernel_rfl) rfl (by kernel_rfl) (by kernel_rfl) (by kernel_rfl) (by kernel_rfl) rfl (fun _ => by kernel_rfl) (Xg.wrap_i64_in (by omega)) ?_
    refine Xg.any_pure ((pv p 0)) 10 (by kernel_rfl) rfl (by kernel_rfl) (by kernel_rfl) (by kernel_rfl) (by kernel_rfl) rfl (fun _ => by kernel_rfl) ?_
    refine Xg.any_pure ((iv place)) 11 (by kernel_rfl) rfl (by kernel_rfl) (by kernel_rfl) (by kernel_rfl) (by kernel_rfl) rfl (fun _ => by kernel_rfl) ?_
    refine Xg.any_int .i64 (IntKind.wrap .i64 ((place + (1 : Int)))) 12 (by kernel_rfl) rfl (by kernel_rfl) (by kernel_rfl) (by kernel_rfl) (by kernel_rfl) rfl (fun _ => by kernel_rfl) (Xg.wrap_i64_in (by omega)) ?_
    refine Xg.any_pure ((pv p 0)) 13 (by kernel_rfl) rfl (by kernel_rfl) (by kernel_rfl) (by kernel_rfl) (by kernel_rfl) rfl (fun _ => by kernel_rfl) ?_
    refine Xg.any_pure ((pv p 12)) 14 (by kernel_rfl) rfl (by kernel_rfl) (by kernel_rfl) (by kernel_rfl) (by kernel_rfl) rfl (fun _ => by kernel_rfl) ?_
    refine Xg.any_pure (.pointer (some (Addr.mk p ((12 : Nat) + (place + (1 : Int)).toNat) none))) 15 (by kernel_rfl) rfl (by kernel_rfl) (by kernel_rfl) (by kernel_rfl) (by kernel_rfl) rfl (Xg.run_ix_array' (elem := 5) (len := 8192) (b := p) (off := ((12 : Nat))) (kd := .i64) (e := (place + (1 : Int))) 1 ((place + (1 : Int)).toNat) ((12 : Nat) + (place + (1 : Int)).toNat) (by kernel_rfl) (by kernel_rfl) (by kernel_rfl) (by kernel_rfl) (by omega) (by omega) (by omega)) ?_
    refine Xg.any_reads (uv (σ.vram (place + (1 : Int)).toNat)) 16 1 (by kernel_rfl) rfl (by kernel_rfl) (by kernel_rfl) (by kernel_rfl) (by kernel_rfl) rfl rfl (by kernel_rfl) (Xg.cell_now (b := p) (off := ((12 : Nat) + (place + (1 : Int)).toNat)) 0 rfl (@Go.Proofs.Ytkfclamiendamaa.g_vram (σ) (((place + (1 : Int)).toNat)) (by omega))) (fun _ h => Xg.run_load (by kernel_rfl) (by kernel_rfl) h) ?_
    refine Xg.any_pure ((iv ((7 : Int) - band IntKind.i64 col (7 : Int)))) 17 (by kernel_rfl) rfl (by kernel_rfl) (by kernel_rfl) (by kernel_rfl) (by kernel_rfl) rfl (fun _ => by kernel_rfl) ?_
    refine Xg.any_pure (.int .u8 (Int.fdiv (σ.vram (place + (1 : Int)).toNat) (2 ^ min (Int.toNat ((7 : Int) - band IntKind.i64 col (7 : Int))) (IntKind.bits .u8)))) 18 (by kernel_rfl) rfl (by kernel_rfl) (by kernel_rfl) (by kernel_rfl) (by kernel_rfl) rfl (fun _ => Xg.run_shr (k1 := .u8) (k2 := .i64) (m := (σ.vram (place + (1 : Int)).toNat)) (e := ((7 : Int) - band IntKind.i64 col (7 : Int))) (by kernel_rfl) (by kernel_rfl) (by omega)) ?_
    refine Xg.any_pure (.int .u8 (Xg.band .u8 (((σ.vram (place + (1 : Int)).toNat).fdiv ((2 : Int) ^ min ((7 : Int) - band IntKind.i64 col (7 : Int)).toNat IntKind.u8.bits))) (((1 : Int))))) 19 (by kernel_rfl) rfl (by kernel_rfl) (by kernel_rfl) (by kernel_rfl) (by kernel_rfl) rfl (fun _ => by kernel_rfl) ?_
    refine Xg.any_int .i64 (IntKind.wrap .i64 ((band IntKind.u8 ((σ.vram (place + (1 : Int)).toNat).fdiv ((2 : Int) ^ min ((7 : Int) - band IntKind.i64 col (7 : Int)).toNat IntKind.u8.bits)) (1 : Int)))) 20 (by kernel_rfl) rfl (by kernel_rfl) (by kernel_rfl) (by kernel_rfl) (by kernel_rfl) rfl (fun _ => by kernel_rfl) (Xg.wrap_i64_in (by omega)) ?_
    refine Xg.any_int .i64 (IntKind.wrap .i64 ((band IntKind.u8 ((σ.vram (place + (1 : Int)).toNat).fdiv ((2 : Int) ^ min ((7 : Int) - band IntKind.i64 col (7 : Int)).toNat IntKind.u8.bits)) (1 : Int) * (2 : Int)))) 21 (by kernel_rfl) rfl (by kernel_rfl) (by kernel_rfl) (by kernel_rfl) (by kernel_rfl) rfl (fun _ => by kernel_rfl) (Xg.wrap_i64_in (by omega)) ?_
    refine Xg.any_pure (.int .i64 (Xg.bor .i64 ((band IntKind.u8 ((σ.vram place.toNat).fdiv ((2 : Int) ^ min ((7 : Int) - band IntKind.i64 col (7 : Int)).toNat IntKind.u8.bits)) (1 : Int))) ((band IntKind.u8 ((σ.vram (place + (1 : Int)).toNat).fdiv ((2 : Int) ^ min ((7 : Int) - band IntKind.i64 col (7 : Int)).toNat IntKind.u8.bits)) (1 : Int) * (2 : Int))))) 22 (by kernel_rfl) rfl (by kernel_rfl) (by kernel_rfl) (by kernel_rfl) (by kernel_rfl) rfl (fun _ => by kernel_rfl) ?_
    refine Xg.any_pure ((iv (bor IntKind.i64 (band IntKind.u8 ((σ.vram place.toNat).fdiv ((2 : Int) ^ min ((7 : Int) - band IntKind.i64 col (7 : Int)).toNat IntKind.u8.bits)) (1 : Int)) (band IntKind.u8 ((σ.vram (place + (1 : Int)).toNat).fdiv ((2 : Int) ^ min ((7 : Int) - band IntKind.i64 col (7 : Int)).toNat IntKind.u8.bits)) (1 : Int) * (2 : Int))))) 23 (by kernel_rfl) rfl (by kernel_rfl) (by kernel_rfl) (by kernel_rfl) (by kernel_rfl) rfl (fun _ => by kernel_rfl) ?_
    refine Xg.any_nil (by kernel_rfl) ?_
    refine Xg.at_ret_ps (v := (iv (bor IntKind.i64 (band IntKind.u8 ((σ.vram place.toNat).fdiv ((2 : Int) ^ min ((7 : Int) - band IntKind.i64 col (7 : Int)).toNat IntKind.u8.bits)) (1 : Int)) (band IntKind.u8 ((σ.vram (place + (1 : Int)).toNat).fdiv ((2 : Int) ^ min ((7 : Int) - band IntKind.i64 col (7 : Int)).toNat IntKind.u8.bits)) (1 : Int) * (2 : Int))))) [0] [PpR p σ] Go.Proofs.Try.func93 (fun _ => by kernel_rfl) (by kernel_rfl) (by kernel_rfl) ?_)
  refine ⟨congrArg (Value.int .i64) ?_, rfl⟩
  rw [b0, b1]
  unfold numI bitL
  rw [show place.toNat + 1 = (place + 1).toNat from by omega]
  exact bor_12 (by omega) (by omega)

theorem colour_d (p : Nat) (σ : Pp) (hσ : σ.Wf) (r n : Int) (hr : 0 ≤ r ∧ r ≤ 11) (hn : 0 ≤ n ∧ n ≤ 3) : Does Try.prog 77 [pt p, .int .i64 r, .int .i64 n] [PpR p σ] (Ret (.int .u8 (σ.regs r.toNat / 2 ^ (2 * n).toNat % 4)) [PpR p σ]) := by
  have v0 := hσ.regs r.toNat
  have e : band .i64 (Int.fdiv (σ.regs r.toNat) (2 ^ min (Int.toNat (2 * n)) (IntKind.bits .i64))) 3 = σ.regs r.toNat / 2 ^ (2 * n).toNat % 4 := by
    rw [band_3, show min (Int.toNat (2 * n)) (IntKind.bits .i64) = (2 * n).toNat from Nat.min_eq_left (by show _ ≤ 64; omega), shr_div _ _ (Int.pow_pos (by omega))]
  have hb : 0 ≤ σ.regs r.toNat / 2 ^ (2 * n).toNat % 4 ∧ σ.regs r.toNat / 2 ^ (2 * n).toNat % 4 ≤ 3 := by omega
  (focus
    refine Xg.spec_of Go.Proofs.Try.func77 rfl Go.Proofs.Try.ntmps77 fun g F => ?_)
  (focus
    refine Xg.at_seq ?_
    refine Xg.at_region ?_
    refine Xg.ops_op (by kernel_rfl) (Xg.opx_pure ((uv 0)) rfl (fun _ => by kernel_rfl) ?_)
    refine Xg.ops_nil ?_
    refine Xg.at_seq ?_
    refine Xg.at_region ?_
    refine Xg.ops_op (by kernel_rfl) (Xg.opx_pure ((pv p 0)) rfl (fun _ => by kernel_rfl) ?_)
    refine Xg.ops_op (by kernel_rfl) (Xg.opx_pure ((iv r)) rfl (fun _ => by kernel_rfl) ?_)
    refine Xg.ops_op (by kernel_rfl) (Xg.opx_pure ((pv p 0)) rfl (fun _ => by kernel_rfl) ?_)
    refine Xg.ops_op (by kernel_rfl) (Xg.opx_pure ((pv p 0)) rfl (fun _ => by kernel_rfl) ?_)
    refine Xg.ops_op (by kernel_rfl) (Xg.opx_run (.pointer (some (Addr.mk p r.toNat none))) rfl (Xg.run_ix_array' (elem := 3) (len := 12) (b := p) (off := ((0 : Nat))) (kd := .i64) (e := r) 1 r.toNat r.toNat (by kernel_rfl) (by kernel_rfl) (by kernel_rfl) (by kernel_rfl) (by omega) (by omega) (by omega)) ?_)
    refine Xg.ops_op (by kernel_rfl) (Xg.opx_load (b := p) (off := r.toNat) 0 (iv (σ.regs r.toNat)) rfl (by kernel_rfl) (@Go.Proofs.Ytkfclamiendamaa.g_regs (σ) (r.toNat) (by omega)) (by kernel_rfl) ?_)
    refine Xg.ops_op (by kernel_rfl) (Xg.opx_pure ((iv n)) rfl (fun _ => by kernel_rfl) ?_)
    refine Xg.ops_op (by kernel_rfl) (Xg.opx_int .i64 (IntKind.wrap .i64 (((2 : Int) * n))) rfl (fun _ => by kernel_rfl) (Xg.wrap_i64_in (by omega)) ?_)
    refine Xg.ops_op (by kernel_rfl) (Xg.opx_run (.int .i64 (Int.fdiv (σ.regs r.toNat) (2 ^ min (Int.toNat ((2 : Int) * n)) (IntKind.bits .i64)))) rfl (fun _ => Xg.run_shr (k1 := .i64) (k2 := .i64) (m := (σ.regs r.toNat)) (e := ((2 : Int) * n)) (by kernel_rfl) (by kernel_rfl) (by omega)) ?_)
    refine Xg.ops_op (by kernel_rfl) (Xg.opx_pure (.int .i64 (Xg.band .i64 (((σ.regs r.toNat).fdiv ((2 : Int) ^ min ((2 : Int) * n).toNat IntKind.i64.bits))) (((3 : Int))))) rfl (fun _ => by kernel_rfl) ?_)
    refine Xg.ops_op (by kernel_rfl) (Xg.opx_int .u8 (IntKind.wrap .u8 ((band IntKind.i64 ((σ.regs r.toNat).fdiv ((2 : Int) ^ min ((2 : Int) * n).toNat IntKind.i64.bits)) (3 : Int)))) rfl (fun _ => by kernel_rfl) (Xg.wrap_u8_in (by omega)) ?_)
    refine Xg.ops_op (by kernel_rfl) (Xg.opx_pure ((uv (band IntKind.i64 ((σ.regs r.toNat).fdiv ((2 : Int) ^ min ((2 : Int) * n).toNat IntKind.i64.bits)) (3 : Int)))) rfl (fun _ => by kernel_rfl) ?_)
    refine Xg.ops_nil ?_
    refine Xg.at_ret_ps (v := (uv (band IntKind.i64 ((σ.regs r.toNat).fdiv ((2 : Int) ^ min ((2 : Int) * n).toNat IntKind.i64.bits)) (3 : Int)))) [0] [PpR p σ] Go.Proofs.Try.func77 (fun _ => by kernel_rfl) (by kernel_rfl) (by kernel_rfl) ?_)
  all_goals exact ⟨by rw [e], rfl⟩

end Go.Proofs.Ytkfclamiendamaa
