/- The picture's functions: bits, modes. -/
import Derived.Test.YtkfclamiendamaaKV1
import Derived.Test.YtkfclamiendamaaKS
namespace Go.Proofs.Ytkfclamiendamaa
open Go.Sl Go.Xg
set_option linter.unusedVariables false
set_option linter.unusedSimpArgs false
set_option maxHeartbeats 4000000
set_option maxRecDepth 100000

theorem band64N {x y : Nat} (hx : x < 4611686018427387904) (hy : y < 4611686018427387904) : band .i64 x y = ((x &&& y : Nat) : Int) := by
  show IntKind.i64.wrap _ = _
  have e : (BitVec.ofInt IntKind.i64.bits (x : Int) &&& BitVec.ofInt IntKind.i64.bits (y : Int)).toNat = x &&& y := by
    show (BitVec.ofInt 64 (x : Int) &&& BitVec.ofInt 64 (y : Int)).toNat = _
    rw [ofInt_nat, ofInt_nat, BitVec.toNat_and, BitVec.toNat_ofNat, BitVec.toNat_ofNat, Nat.mod_eq_of_lt (by omega), Nat.mod_eq_of_lt (by omega)]
  rw [e]
  have : x &&& y ≤ x := Nat.and_le_left
  exact wrap_i64_in (by omega)
theorem band64_1 {x : Int} (h : 0 ≤ x ∧ x < 4611686018427387904) : band .i64 x 1 = x % 2 := by
  obtain ⟨n, rfl⟩ := nat_of h.1
  have := band64N (x := n) (y := 1) (by omega) (by omega)
  rw [Nat.and_one_is_mod] at this
  have e : ((1 : Nat) : Int) = 1 := rfl
  rw [e] at this
  omega
theorem bit_at {x : Int} (h : 0 ≤ x ∧ x < 4611686018427387904) (i : Int) (j : Nat) (hi : i.toNat = j) (hj : j < 60) : band .i64 (Int.fdiv x (2 ^ min (Int.toNat i) (IntKind.bits .i64))) 1 = x / 2 ^ j % 2 := by
  rw [hi, show min j (IntKind.bits .i64) = j from Nat.min_eq_left (by show j ≤ 64; omega)]
  rw [show Int.fdiv x (2 ^ j) = x / 2 ^ j from shr_div x _ (Int.pow_pos (by omega))]
  have hp : (0 : Int) < 2 ^ j := Int.pow_pos (by omega)
  have h2 : x / 2 ^ j ≤ x := Int.ediv_le_self _ h.1
  exact band64_1 ⟨Int.ediv_nonneg h.1 (Int.le_of_lt hp), by omega⟩

theorem band_255 (d : Int) : band .i64 d 255 = d % 256 := by
  show IntKind.i64.wrap _ = _
  have e : (BitVec.ofInt IntKind.i64.bits d &&& BitVec.ofInt IntKind.i64.bits 255).toNat = (d % 256).toNat := by
    show (BitVec.ofInt 64 d &&& BitVec.ofInt 64 ((255 : Nat) : Int)).toNat = _
    rw [ofInt_nat, BitVec.toNat_and, BitVec.toNat_ofNat, BitVec.toNat_ofInt]
    rw [show 255 % 2 ^ 64 = 2 ^ 8 - 1 from rfl, Nat.and_two_pow_sub_one_eq_mod]
    omega
  rw [e, wrap_i64_in (by omega)]
  omega

/-- What holds of it always. -/
structure Pp.Wf (σ : Pp) : Prop where
  regs : ∀ i, 0 ≤ σ.regs i ∧ σ.regs i ≤ 255
  vram : ∀ i, 0 ≤ σ.vram i ∧ σ.vram i ≤ 255
  oam : ∀ i, 0 ≤ σ.oam i ∧ σ.oam i ≤ 255
  clock : 0 ≤ σ.clock ∧ σ.clock ≤ 452
  ly : σ.regs 4 ≤ 153
  rows : 0 ≤ σ.rows ∧ σ.rows ≤ 144
  now : ∀ i, 0 ≤ σ.now i ∧ σ.now i ≤ 3
  last : ∀ i, 0 ≤ σ.last i ∧ σ.last i ≤ 3

/-- A bit of LCDC. -/
def hasB (x : Int) (n : Nat) : Bool := decide (x / 2 ^ n % 2 = 1)

theorem has_d (p : Nat) (σ : Pp) (n : Nat) (hn : n ≤ 7) (h : 0 ≤ σ.regs 0 ∧ σ.regs 0 ≤ 255) : Does Try.prog 74 [pt p, .int .i64 (n : Nat)] [PpR p σ] (Ret (.bool (hasB (σ.regs 0) n)) [PpR p σ]) := by
  have hb := bit_at (x := σ.regs 0) (by omega) (n : Int) n (by omega) (by omega)
  (focus
    refine Xg.spec_of Go.Proofs.Try.func74 rfl Go.Proofs.Try.ntmps74 fun g F => ?_)
  (focus
    refine Xg.at_seq ?_
    refine Xg.at_region ?_
    refine Xg.ops_op (by kernel_rfl) (Xg.opx_pure ((Value.bool false)) rfl (fun _ => by kernel_rfl) ?_)
    refine Xg.ops_nil ?_
    refine Xg.at_seq ?_
    refine Xg.at_region ?_
    refine Xg.ops_op (by kernel_rfl) (Xg.opx_pure ((pv p 0)) rfl (fun _ => by kernel_rfl) ?_)
    refine Xg.ops_op (by kernel_rfl) (Xg.opx_pure ((pv p 0)) rfl (fun _ => by kernel_rfl) ?_)
    refine Xg.ops_op (by kernel_rfl) (Xg.opx_pure ((pv p 0)) rfl (fun _ => by kernel_rfl) ?_)
    refine Xg.ops_op (by kernel_rfl) (Xg.opx_pure (pv p 0) rfl (fun _ => by kernel_rfl) ?_)
    refine Xg.ops_op (by kernel_rfl) (Xg.opx_load (b := p) (off := ((0 : Nat))) 0 (iv (σ.regs 0)) rfl (by kernel_rfl) (@Go.Proofs.Ytkfclamiendamaa.g_regs (σ) (((0 : Nat))) (by omega)) (by kernel_rfl) ?_)
    refine Xg.ops_op (by kernel_rfl) (Xg.opx_pure ((iv (↑n : Int))) rfl (fun _ => by kernel_rfl) ?_)
    refine Xg.ops_op (by kernel_rfl) (Xg.opx_run (.int .i64 (Int.fdiv (σ.regs 0) (2 ^ min (Int.toNat ((↑n : Int))) (IntKind.bits .i64)))) rfl (fun _ => Xg.run_shr (k1 := .i64) (k2 := .i64) (m := (σ.regs 0)) (e := ((↑n : Int))) (by kernel_rfl) (by kernel_rfl) (by omega)) ?_)
    refine Xg.ops_op (by kernel_rfl) (Xg.opx_pure (.int .i64 (Xg.band .i64 (((σ.regs 0).fdiv ((2 : Int) ^ min (↑n : Int).toNat IntKind.i64.bits))) (((1 : Int))))) rfl (fun _ => by kernel_rfl) ?_)
    refine Xg.ops_op (by kernel_rfl) (Xg.opx_pure (.bool (decide (((band IntKind.i64 ((σ.regs 0).fdiv ((2 : Int) ^ min (↑n : Int).toNat IntKind.i64.bits)) (1 : Int)) : Int) = ((1 : Int))))) rfl (fun _ => by kernel_rfl) ?_)
    refine Xg.ops_op (by kernel_rfl) (Xg.opx_pure ((Value.bool (decide (band IntKind.i64 ((σ.regs 0).fdiv ((2 : Int) ^ min (↑n : Int).toNat IntKind.i64.bits)) (1 : Int) = (1 : Int))))) rfl (fun _ => by kernel_rfl) ?_)
    refine Xg.ops_nil ?_
    refine Xg.at_ret_ps (v := (Value.bool (decide (band IntKind.i64 ((σ.regs 0).fdiv ((2 : Int) ^ min (↑n : Int).toNat IntKind.i64.bits)) (1 : Int) = (1 : Int))))) [0] [PpR p σ] Go.Proofs.Try.func74 (fun _ => by kernel_rfl) (by kernel_rfl) (by kernel_rfl) ?_)
  exact ⟨by rw [hb]; rfl, rfl⟩
theorem has_0 (p : Nat) (σ : Pp) (h : 0 ≤ σ.regs 0 ∧ σ.regs 0 ≤ 255) : Does Try.prog 74 [pt p, .int .i64 0] [PpR p σ] (Ret (.bool (hasB (σ.regs 0) 0)) [PpR p σ]) := has_d p σ 0 (by decide) h
theorem has_1 (p : Nat) (σ : Pp) (h : 0 ≤ σ.regs 0 ∧ σ.regs 0 ≤ 255) : Does Try.prog 74 [pt p, .int .i64 1] [PpR p σ] (Ret (.bool (hasB (σ.regs 0) 1)) [PpR p σ]) := has_d p σ 1 (by decide) h
theorem has_2 (p : Nat) (σ : Pp) (h : 0 ≤ σ.regs 0 ∧ σ.regs 0 ≤ 255) : Does Try.prog 74 [pt p, .int .i64 2] [PpR p σ] (Ret (.bool (hasB (σ.regs 0) 2)) [PpR p σ]) := has_d p σ 2 (by decide) h
theorem has_3 (p : Nat) (σ : Pp) (h : 0 ≤ σ.regs 0 ∧ σ.regs 0 ≤ 255) : Does Try.prog 74 [pt p, .int .i64 3] [PpR p σ] (Ret (.bool (hasB (σ.regs 0) 3)) [PpR p σ]) := has_d p σ 3 (by decide) h
theorem has_4 (p : Nat) (σ : Pp) (h : 0 ≤ σ.regs 0 ∧ σ.regs 0 ≤ 255) : Does Try.prog 74 [pt p, .int .i64 4] [PpR p σ] (Ret (.bool (hasB (σ.regs 0) 4)) [PpR p σ]) := has_d p σ 4 (by decide) h
theorem has_5 (p : Nat) (σ : Pp) (h : 0 ≤ σ.regs 0 ∧ σ.regs 0 ≤ 255) : Does Try.prog 74 [pt p, .int .i64 5] [PpR p σ] (Ret (.bool (hasB (σ.regs 0) 5)) [PpR p σ]) := has_d p σ 5 (by decide) h
theorem has_6 (p : Nat) (σ : Pp) (h : 0 ≤ σ.regs 0 ∧ σ.regs 0 ≤ 255) : Does Try.prog 74 [pt p, .int .i64 6] [PpR p σ] (Ret (.bool (hasB (σ.regs 0) 6)) [PpR p σ]) := has_d p σ 6 (by decide) h
theorem has_7 (p : Nat) (σ : Pp) (h : 0 ≤ σ.regs 0 ∧ σ.regs 0 ≤ 255) : Does Try.prog 74 [pt p, .int .i64 7] [PpR p σ] (Ret (.bool (hasB (σ.regs 0) 7)) [PpR p σ]) := has_d p σ 7 (by decide) h

theorem on_d (p : Nat) (σ : Pp) (h : 0 ≤ σ.regs 0 ∧ σ.regs 0 ≤ 255) : Does Try.prog 57 [pt p] [PpR p σ] (Ret (.bool (hasB (σ.regs 0) 7)) [PpR p σ]) := by
  (focus
    refine Xg.spec_of Go.Proofs.Try.func57 rfl Go.Proofs.Try.ntmps57 fun g F => ?_)
  (focus
    refine Xg.at_seq ?_
    refine Xg.at_region ?_
    refine Xg.ops_op (by kernel_rfl) (Xg.opx_pure ((Value.bool false)) rfl (fun _ => by kernel_rfl) ?_)
    refine Xg.ops_nil ?_
    refine Xg.at_seq ?_
    refine Xg.at_region ?_
    refine Xg.ops_op (by kernel_rfl) (Xg.opx_pure ((pv p 0)) rfl (fun _ => by kernel_rfl) ?_)
    refine Xg.ops_op (by kernel_rfl) (Xg.opx_call1' [0] [PpR p σ] (fun _ => by kernel_rfl) (@Go.Proofs.Ytkfclamiendamaa.has_7 (p) (σ) (by omega)) (by kernel_rfl) (by kernel_rfl) (by kernel_rfl) ?_)
    refine Xg.ops_op (by kernel_rfl) (Xg.opx_pure ((Value.bool (hasB (σ.regs 0) (7 : Nat)))) rfl (fun _ => by kernel_rfl) ?_)
    refine Xg.ops_nil ?_
    refine Xg.at_ret_ps (v := (Value.bool (hasB (σ.regs 0) (7 : Nat)))) [0] [PpR p σ] Go.Proofs.Try.func57 (fun _ => by kernel_rfl) (by kernel_rfl) (by kernel_rfl) ?_
    exact ⟨by kernel_rfl, by kernel_rfl⟩)

def modeI (σ : Pp) : Int := if hasB (σ.regs 0) 7 = true then (if σ.regs 4 ≥ 144 then 1 else if σ.clock < 80 then 2 else if σ.clock < 252 then 3 else 0) else 0
theorem modeI_bd (σ : Pp) : 0 ≤ modeI σ ∧ modeI σ ≤ 3 := by
  unfold modeI
  (repeat' split) <;> omega

theorem mode_d (p : Nat) (σ : Pp) (h : 0 ≤ σ.regs 0 ∧ σ.regs 0 ≤ 255) : Does Try.prog 49 [pt p] [PpR p σ] (Ret (.int .i64 (modeI σ)) [PpR p σ]) := by
  (focus
    refine Xg.spec_of Go.Proofs.Try.func49 rfl Go.Proofs.Try.ntmps49 fun g F => ?_)
  (focus
    refine Xg.at_seq ?_
    refine Xg.at_region ?_
    refine Xg.ops_op (by kernel_rfl) (Xg.opx_pure ((iv 0)) rfl (fun _ => by kernel_rfl) ?_)
    refine Xg.ops_nil ?_
    refine Xg.at_seq ?_
    refine Xg.at_block ?_
    refine Xg.at_seq ?_
    refine Xg.at_region ?_
    refine Xg.ops_op (by kernel_rfl) (Xg.opx_pure ((pv p 0)) rfl (fun _ => by kernel_rfl) ?_)
    refine Xg.ops_op (by kernel_rfl) (Xg.opx_call1' [0] [PpR p σ] (fun _ => by kernel_rfl) (@Go.Proofs.Ytkfclamiendamaa.on_d (p) (σ) (by omega)) (by kernel_rfl) (by kernel_rfl) (by kernel_rfl) ?_)
    refine Xg.ops_op (by kernel_rfl) (Xg.opx_pure (.bool (!(hasB (σ.regs 0) (7 : Nat)))) rfl (fun _ => by kernel_rfl) ?_)
    refine Xg.ops_op (by kernel_rfl) (Xg.opx_pure ((Value.bool !hasB (σ.regs 0) (7 : Nat))) rfl (fun _ => by kernel_rfl) ?_)
    refine Xg.ops_nil ?_
    refine Xg.at_cond (t := (!hasB (σ.regs 0) (7 : Nat))) (by kernel_rfl) (fun xh1 => ?_) (fun xh1 => ?_)
    replace xh1 : (hasB (σ.regs (0 : Nat)) (7 : Nat)) = false := by simpa using xh1
    rotate_left
    replace xh1 : (hasB (σ.regs (0 : Nat)) (7 : Nat)) = true := by simpa using xh1
    rotate_right
    refine Xg.at_seq ?_
    refine Xg.at_region ?_
    refine Xg.ops_op (by kernel_rfl) (Xg.opx_pure ((iv 0)) rfl (fun _ => by kernel_rfl) ?_)
    refine Xg.ops_nil ?_
    refine Xg.at_ret_ps (v := (iv 0)) [0] [PpR p σ] Go.Proofs.Try.func49 (fun _ => by kernel_rfl) (by kernel_rfl) (by kernel_rfl) ?_
    rotate_left
    refine Xg.at_seq ?_
    refine Xg.at_region ?_
    refine Xg.ops_op (by kernel_rfl) (Xg.opx_pure ((pv p 0)) rfl (fun _ => by kernel_rfl) ?_)
    refine Xg.ops_op (by kernel_rfl) (Xg.opx_pure ((pv p 0)) rfl (fun _ => by kernel_rfl) ?_)
    refine Xg.ops_op (by kernel_rfl) (Xg.opx_pure ((pv p 0)) rfl (fun _ => by kernel_rfl) ?_)
    refine Xg.ops_op (by kernel_rfl) (Xg.opx_pure (pv p 4) rfl (fun _ => by kernel_rfl) ?_)
    refine Xg.ops_op (by kernel_rfl) (Xg.opx_load (b := p) (off := ((4 : Nat))) 0 (iv (σ.regs 4)) rfl (by kernel_rfl) (@Go.Proofs.Ytkfclamiendamaa.g_regs (σ) (((4 : Nat))) (by omega)) (by kernel_rfl) ?_)
    refine Xg.ops_op (by kernel_rfl) (Xg.opx_pure (.bool (decide (((σ.regs 4) : Int) ≥ ((144 : Int))))) rfl (fun _ => by kernel_rfl) ?_)
    refine Xg.ops_op (by kernel_rfl) (Xg.opx_pure ((Value.bool (decide (σ.regs 4 ≥ (144 : Int))))) rfl (fun _ => by kernel_rfl) ?_)
    refine Xg.ops_nil ?_
    refine Xg.at_dec (p := (σ.regs 4 ≥ (144 : Int))) (by kernel_rfl) (fun xh2 => ?_) (fun xh2 => ?_)
    refine Xg.at_seq ?_
    refine Xg.at_region ?_
    refine Xg.ops_op (by kernel_rfl) (Xg.opx_pure ((iv 1)) rfl (fun _ => by kernel_rfl) ?_)
    refine Xg.ops_nil ?_
    refine Xg.at_ret_ps (v := (iv 1)) [0] [PpR p σ] Go.Proofs.Try.func49 (fun _ => by kernel_rfl) (by kernel_rfl) (by kernel_rfl) ?_
    rotate_left
    refine Xg.at_seq ?_
    refine Xg.at_region ?_
    refine Xg.ops_op (by kernel_rfl) (Xg.opx_pure ((pv p 0)) rfl (fun _ => by kernel_rfl) ?_)
    refine Xg.ops_op (by kernel_rfl) (Xg.opx_pure ((pv p 0)) rfl (fun _ => by kernel_rfl) ?_)
    refine Xg.ops_op (by kernel_rfl) (Xg.opx_pure ((pv p 8364)) rfl (fun _ => by kernel_rfl) ?_)
    refine Xg.ops_op (by kernel_rfl) (Xg.opx_load (b := p) (off := ((8364 : Nat))) 0 (iv σ.clock) rfl (by kernel_rfl) (@Go.Proofs.Ytkfclamiendamaa.g_clock (σ)) (by kernel_rfl) ?_)
    refine Xg.ops_op (by kernel_rfl) (Xg.opx_pure (.bool (decide ((σ.clock : Int) < ((80 : Int))))) rfl (fun _ => by kernel_rfl) ?_)
    refine Xg.ops_op (by kernel_rfl) (Xg.opx_pure ((Value.bool (decide (σ.clock < (80 : Int))))) rfl (fun _ => by kernel_rfl) ?_)
    refine Xg.ops_nil ?_
    refine Xg.at_dec (p := (σ.clock < (80 : Int))) (by kernel_rfl) (fun xh3 => ?_) (fun xh3 => ?_)
    refine Xg.at_seq ?_
    refine Xg.at_region ?_
    refine Xg.ops_op (by kernel_rfl) (Xg.opx_pure ((iv 2)) rfl (fun _ => by kernel_rfl) ?_)
    refine Xg.ops_nil ?_
    refine Xg.at_ret_ps (v := (iv 2)) [0] [PpR p σ] Go.Proofs.Try.func49 (fun _ => by kernel_rfl) (by kernel_rfl) (by kernel_rfl) ?_
    rotate_left
    refine Xg.at_seq ?_
    refine Xg.at_region ?_
    refine Xg.ops_op (by kernel_rfl) (Xg.opx_pure ((pv p 0)) rfl (fun _ => by kernel_rfl) ?_)
    refine Xg.ops_op (by kernel_rfl) (Xg.opx_pure ((pv p 0)) rfl (fun _ => by kernel_rfl) ?_)
    refine Xg.ops_op (by kernel_rfl) (Xg.opx_pure ((pv p 8364)) rfl (fun _ => by kernel_rfl) ?_)
    refine Xg.ops_op (by kernel_rfl) (Xg.opx_load (b := p) (off := ((8364 : Nat))) 0 (iv σ.clock) rfl (by kernel_rfl) (@Go.Proofs.Ytkfclamiendamaa.g_clock (σ)) (by kernel_rfl) ?_)
    refine Xg.ops_op (by kernel_rfl) (Xg.opx_pure (.bool (decide ((σ.clock : Int) < ((252 : Int))))) rfl (fun _ => by kernel_rfl) ?_)
    refine Xg.ops_op (by kernel_rfl) (Xg.opx_pure ((Value.bool (decide (σ.clock < (252 : Int))))) rfl (fun _ => by kernel_rfl) ?_)
    refine Xg.ops_nil ?_
    refine Xg.at_dec (p := (σ.clock < (252 : Int))) (by kernel_rfl) (fun xh4 => ?_) (fun xh4 => ?_)
    refine Xg.at_seq ?_
    refine Xg.at_region ?_
    refine Xg.ops_op (by kernel_rfl) (Xg.opx_pure ((iv 3)) rfl (fun _ => by kernel_rfl) ?_)
    refine Xg.ops_nil ?_
    refine Xg.at_ret_ps (v := (iv 3)) [0] [PpR p σ] Go.Proofs.Try.func49 (fun _ => by kernel_rfl) (by kernel_rfl) (by kernel_rfl) ?_
    rotate_left
    refine Xg.at_skip ?_
    refine Xg.at_inBlock ?_
    refine Xg.at_seq ?_
    refine Xg.at_region ?_
    refine Xg.ops_op (by kernel_rfl) (Xg.opx_pure ((iv 0)) rfl (fun _ => by kernel_rfl) ?_)
    refine Xg.ops_nil ?_
    refine Xg.at_ret_ps (v := (iv 0)) [0] [PpR p σ] Go.Proofs.Try.func49 (fun _ => by kernel_rfl) (by kernel_rfl) (by kernel_rfl) ?_)
  all_goals exact ⟨by simp [modeI, *], rfl⟩

theorem mode_e (p : Nat) (σ : Pp) (h : 0 ≤ σ.regs 0 ∧ σ.regs 0 ≤ 255) : Does Try.prog 49 [pt p] [PpR p σ] (RetE (fun m : Int => m = modeI σ ∧ 0 ≤ m ∧ m ≤ 3) (fun m => .int .i64 m) (fun _ => [PpR p σ])) :=
  (mode_d p σ h).mono fun _ _ ⟨e1, e2⟩ => ⟨modeI σ, ⟨rfl, modeI_bd σ⟩, e1, e2⟩

/-- What is read at an address. -/
def readI (σ : Pp) (a : Int) : Int :=
  if 32768 ≤ a ∧ a < 40960 then (if modeI σ = 3 then 255 else σ.vram (a - 32768).toNat)
  else if 65024 ≤ a ∧ a < 65184 then (if modeI σ ≥ 2 then 255 else σ.oam (a - 65024).toNat)
  else if a < 65344 ∨ a ≥ 65356 ∨ a = 65350 then 255
  else if a = 65345 then (if σ.regs 4 = σ.regs 5 then bor .i64 (bor .i64 (σ.regs 1) (bor .i64 128 (modeI σ))) 4 else bor .i64 (σ.regs 1) (bor .i64 128 (modeI σ)))
  else σ.regs (a - 65344).toNat

set_option maxHeartbeats 0 in
theorem read_d (p : Nat) (σ : Pp) (hσ : σ.Wf) (a : Int) (ha : -9223372036854775808 ≤ a ∧ a ≤ 9223372036854775807) : Does Try.prog 24 [pt p, .int .i64 a] [PpR p σ] (Ret (.int .i64 (readI σ a)) [PpR p σ]) := by
  have h0 := hσ.regs 0
  have hv := hσ.vram (a - 32768).toNat
  have ho := hσ.oam (a - 65024).toNat
  (focus
    refine Xg.spec_of Go.Proofs.Try.func24 rfl Go.Proofs.Try.ntmps24 fun g F => ?_)
  (focus
    refine Xg.at_seq ?_
    refine Xg.at_region ?_
    refine Xg.ops_op (by kernel_rfl) (Xg.opx_pure ((iv 0)) rfl (fun _ => by kernel_rfl) ?_)
    refine Xg.ops_nil ?_
    refine Xg.at_seq ?_
    refine Xg.at_region ?_
    refine Xg.ops_op (by kernel_rfl) (Xg.opx_pure ((pv p 0)) rfl (fun _ => by kernel_rfl) ?_)
    refine Xg.ops_op (by kernel_rfl) (Xg.opx_callE' [0] (fun xx1 => [PpR p σ]) (fun _ => by kernel_rfl) (@Go.Proofs.Ytkfclamiendamaa.mode_e (p) (σ) (by omega)) (by kernel_rfl) (by kernel_rfl) (by kernel_rfl) fun xx1 xh1 => ?_)
    try dsimp only at xh1
    obtain ⟨xh1_0, xh1_1, xh1_2⟩ := xh1
    refine Xg.ops_op (by kernel_rfl) (Xg.opx_pure ((iv xx1)) rfl (fun _ => by kernel_rfl) ?_)
    refine Xg.ops_nil ?_
    refine Xg.at_seq ?_
    refine Xg.at_block ?_
    refine Xg.at_seq ?_
    refine Xg.at_region ?_
    refine Xg.ops_op (by kernel_rfl) (Xg.opx_pure ((iv a)) rfl (fun _ => by kernel_rfl) ?_)
    refine Xg.ops_op (by kernel_rfl) (Xg.opx_pure (.bool (decide ((a : Int) ≥ ((32768 : Int))))) rfl (fun _ => by kernel_rfl) ?_)
    refine Xg.ops_op (by kernel_rfl) (Xg.opx_pure ((Value.bool (decide (a ≥ (32768 : Int))))) rfl (fun _ => by kernel_rfl) ?_)
    refine Xg.ops_flag (j := 12) (c := (decide (a ≥ (32768 : Int)))) (by kernel_rfl) (fun xh2 => ?_) (fun xh2 => ?_)
    replace xh2 : (a ≥ (32768 : Int)) := of_decide_eq_true xh2
    rotate_left
    replace xh2 : ¬ ((a ≥ (32768 : Int))) := of_decide_eq_false xh2
    rotate_right
    refine Xg.ops_op (by kernel_rfl) (Xg.opx_pure ((iv a)) rfl (fun _ => by kernel_rfl) ?_)
    refine Xg.ops_op (by kernel_rfl) (Xg.opx_pure (.bool (decide ((a : Int) < ((40960 : Int))))) rfl (fun _ => by kernel_rfl) ?_)
    refine Xg.ops_flag (j := 14) (c := (decide (a < (40960 : Int)))) (by kernel_rfl) (fun xh3 => ?_) (fun xh3 => ?_)
    replace xh3 : (a < (40960 : Int)) := of_decide_eq_true xh3
    rotate_left
    replace xh3 : ¬ ((a < (40960 : Int))) := of_decide_eq_false xh3
    rotate_right
    refine Xg.ops_op (by kernel_rfl) (Xg.opx_pure ((Value.bool true)) rfl (fun _ => by kernel_rfl) ?_)
    refine Xg.ops_op (by kernel_rfl) (Xg.opx_pure ((Value.bool true)) rfl (fun _ => by kernel_rfl) ?_)
    refine Xg.ops_nil ?_
    refine Xg.at_true (t := true) (by kernel_rfl) rfl ?_
    refine Xg.at_seq ?_
    refine Xg.at_seq ?_
    refine Xg.at_region ?_
    refine Xg.ops_op (by kernel_rfl) (Xg.opx_pure ((iv xx1)) rfl (fun _ => by kernel_rfl) ?_)
    refine Xg.ops_op (by kernel_rfl) (Xg.opx_pure (.bool (decide ((xx1 : Int) = ((3 : Int))))) rfl (fun _ => by kernel_rfl) ?_)
    refine Xg.ops_nil ?_
    refine Xg.at_dec (p := (xx1 = (3 : Int))) (by kernel_rfl) (fun xh4 => ?_) (fun xh4 => ?_)
    refine Xg.at_seq ?_
    refine Xg.at_region ?_
    refine Xg.ops_op (by kernel_rfl) (Xg.opx_pure ((iv 255)) rfl (fun _ => by kernel_rfl) ?_)
    refine Xg.ops_nil ?_
    refine Xg.at_ret_ps (v := (iv 255)) [0] [PpR p σ] Go.Proofs.Try.func24 (fun _ => by kernel_rfl) (by kernel_rfl) (by kernel_rfl) ?_
    rotate_left
    refine Xg.at_skip ?_
    refine Xg.at_seq ?_
    refine Xg.at_region ?_
    refine Xg.ops_op (by kernel_rfl) (Xg.opx_pure ((pv p 0)) rfl (fun _ => by kernel_rfl) ?_)
    refine Xg.ops_op (by kernel_rfl) (Xg.opx_pure ((iv a)) rfl (fun _ => by kernel_rfl) ?_)
    refine Xg.ops_op (by kernel_rfl) (Xg.opx_int .i64 (IntKind.wrap .i64 ((a - (32768 : Int)))) rfl (fun _ => by kernel_rfl) (Xg.wrap_i64_in (by omega)) ?_)
    refine Xg.ops_op (by kernel_rfl) (Xg.opx_pure ((pv p 0)) rfl (fun _ => by kernel_rfl) ?_)
    refine Xg.ops_op (by kernel_rfl) (Xg.opx_pure ((pv p 12)) rfl (fun _ => by kernel_rfl) ?_)
    refine Xg.ops_op (by kernel_rfl) (Xg.opx_run (.pointer (some (Addr.mk p ((12 : Nat) + (a - (32768 : Int)).toNat) none))) rfl (Xg.run_ix_array' (elem := 5) (len := 8192) (b := p) (off := ((12 : Nat))) (kd := .i64) (e := (a - (32768 : Int))) 1 ((a - (32768 : Int)).toNat) ((12 : Nat) + (a - (32768 : Int)).toNat) (by kernel_rfl) (by kernel_rfl) (by kernel_rfl) (by kernel_rfl) (by omega) (by omega) (by omega)) ?_)
    refine Xg.ops_op (by kernel_rfl) (Xg.opx_load (b := p) (off := ((12 : Nat) + (a - (32768 : Int)).toNat)) 0 (uv (σ.vram (a - (32768 : Int)).toNat)) rfl (by kernel_rfl) (@Go.Proofs.Ytkfclamiendamaa.g_vram (σ) (((a - (32768 : Int)).toNat)) (by omega)) (by kernel_rfl) ?_)
    refine Xg.ops_op (by kernel_rfl) (Xg.opx_int .i64 (IntKind.wrap .i64 ((σ.vram (a - (32768 : Int)).toNat))) rfl (fun _ => by kernel_rfl) (Xg.wrap_i64_in (by omega)) ?_)
    refine Xg.ops_op (by kernel_rfl) (Xg.opx_pure ((iv (σ.vram (a - (32768 : Int)).toNat))) rfl (fun _ => by kernel_rfl) ?_)
    refine Xg.ops_nil ?_
    refine Xg.at_ret_ps (v := (iv (σ.vram (a - (32768 : Int)).toNat))) [0] [PpR p σ] Go.Proofs.Try.func24 (fun _ => by kernel_rfl) (by kernel_rfl) (by kernel_rfl) ?_
    rotate_left
    refine Xg.ops_op (by kernel_rfl) (Xg.opx_pure ((Value.bool false)) rfl (fun _ => by kernel_rfl) ?_)
    refine Xg.ops_op (by kernel_rfl) (Xg.opx_pure ((Value.bool false)) rfl (fun _ => by kernel_rfl) ?_)
    refine Xg.ops_nil ?_
    refine Xg.at_false (t := false) (by kernel_rfl) rfl ?_
    refine Xg.at_seq ?_
    refine Xg.at_region ?_
    refine Xg.ops_op (by kernel_rfl) (Xg.opx_pure ((iv a)) rfl (fun _ => by kernel_rfl) ?_)
    refine Xg.ops_op (by kernel_rfl) (Xg.opx_pure (.bool (decide ((a : Int) ≥ ((65024 : Int))))) rfl (fun _ => by kernel_rfl) ?_)
    refine Xg.ops_op (by kernel_rfl) (Xg.opx_pure ((Value.bool (decide (a ≥ (65024 : Int))))) rfl (fun _ => by kernel_rfl) ?_)
    refine Xg.ops_flag (j := 29) (c := (decide (a ≥ (65024 : Int)))) (by kernel_rfl) (fun xh4 => ?_) (fun xh4 => ?_)
    replace xh4 : (a ≥ (65024 : Int)) := of_decide_eq_true xh4
    rotate_left
    replace xh4 : ¬ ((a ≥ (65024 : Int))) := of_decide_eq_false xh4
    rotate_right
    refine Xg.ops_op (by kernel_rfl) (Xg.opx_pure ((iv a)) rfl (fun _ => by kernel_rfl) ?_)
    refine Xg.ops_op (by kernel_rfl) (Xg.opx_pure (.bool (decide ((a : Int) < ((65184 : Int))))) rfl (fun _ => by kernel_rfl) ?_)
    refine Xg.ops_flag (j := 31) (c := (decide (a < (65184 : Int)))) (by kernel_rfl) (fun xh5 => ?_) (fun xh5 => ?_)
    replace xh5 : (a < (65184 : Int)) := of_decide_eq_true xh5
    rotate_left
    replace xh5 : ¬ ((a < (65184 : Int))) := of_decide_eq_false xh5
    rotate_right
    refine Xg.ops_op (by kernel_rfl) (Xg.opx_pure ((Value.bool true)) rfl (fun _ => by kernel_rfl) ?_)
    refine Xg.ops_op (by kernel_rfl) (Xg.opx_pure ((Value.bool true)) rfl (fun _ => by kernel_rfl) ?_)
    refine Xg.ops_nil ?_
    refine Xg.at_true (t := true) (by kernel_rfl) rfl ?_
    refine Xg.at_seq ?_
    refine Xg.at_seq ?_
    refine Xg.at_region ?_
    refine Xg.ops_op (by kernel_rfl) (Xg.opx_pure ((iv xx1)) rfl (fun _ => by kernel_rfl) ?_)
    refine Xg.ops_op (by kernel_rfl) (Xg.opx_pure (.bool (decide ((xx1 : Int) ≥ ((2 : Int))))) rfl (fun _ => by kernel_rfl) ?_)
    refine Xg.ops_nil ?_
    refine Xg.at_dec (p := (xx1 ≥ (2 : Int))) (by kernel_rfl) (fun xh6 => ?_) (fun xh6 => ?_)
    refine Xg.at_seq ?_
    refine Xg.at_region ?_
    refine Xg.ops_op (by kernel_rfl) (Xg.opx_pure ((iv 255)) rfl (fun _ => by kernel_rfl) ?_)
    refine Xg.ops_nil ?_
    refine Xg.at_ret_ps (v := (iv 255)) [0] [PpR p σ] Go.Proofs.Try.func24 (fun _ => by kernel_rfl) (by kernel_rfl) (by kernel_rfl) ?_
    rotate_left
    refine Xg.at_skip ?_
    refine Xg.at_seq ?_
    refine Xg.at_region ?_
    refine Xg.ops_op (by kernel_rfl) (Xg.opx_pure ((pv p 0)) rfl (fun _ => by kernel_rfl) ?_)
    refine Xg.ops_op (by kernel_rfl) (Xg.opx_pure ((iv a)) rfl (fun _ => by kernel_rfl) ?_)
    refine Xg.ops_op (by kernel_rfl) (Xg.opx_int .i64 (IntKind.wrap .i64 ((a - (65024 : Int)))) rfl (fun _ => by kernel_rfl) (Xg.wrap_i64_in (by omega)) ?_)
    refine Xg.ops_op (by kernel_rfl) (Xg.opx_pure ((pv p 0)) rfl (fun _ => by kernel_rfl) ?_)
    refine Xg.ops_op (by kernel_rfl) (Xg.opx_pure ((pv p 8204)) rfl (fun _ => by kernel_rfl) ?_)
    refine Xg.ops_op (by kernel_rfl) (Xg.opx_run (.pointer (some (Addr.mk p ((8204 : Nat) + (a - (65024 : Int)).toNat) none))) rfl (Xg.run_ix_array' (elem := 5) (len := 160) (b := p) (off := ((8204 : Nat))) (kd := .i64) (e := (a - (65024 : Int))) 1 ((a - (65024 : Int)).toNat) ((8204 : Nat) + (a - (65024 : Int)).toNat) (by kernel_rfl) (by kernel_rfl) (by kernel_rfl) (by kernel_rfl) (by omega) (by omega) (by omega)) ?_)
    refine Xg.ops_op (by kernel_rfl) (Xg.opx_load (b := p) (off := ((8204 : Nat) + (a - (65024 : Int)).toNat)) 0 (uv (σ.oam (a - (65024 : Int)).toNat)) rfl (by kernel_rfl) (@Go.Proofs.Ytkfclamiendamaa.g_oam (σ) (((a - (65024 : Int)).toNat)) (by omega)) (by kernel_rfl) ?_)
    refine Xg.ops_op (by kernel_rfl) (Xg.opx_int .i64 (IntKind.wrap .i64 ((σ.oam (a - (65024 : Int)).toNat))) rfl (fun _ => by kernel_rfl) (Xg.wrap_i64_in (by omega)) ?_)
    refine Xg.ops_op (by kernel_rfl) (Xg.opx_pure ((iv (σ.oam (a - (65024 : Int)).toNat))) rfl (fun _ => by kernel_rfl) ?_)
    refine Xg.ops_nil ?_
    refine Xg.at_ret_ps (v := (iv (σ.oam (a - (65024 : Int)).toNat))) [0] [PpR p σ] Go.Proofs.Try.func24 (fun _ => by kernel_rfl) (by kernel_rfl) (by kernel_rfl) ?_
    rotate_left
    refine Xg.ops_op (by kernel_rfl) (Xg.opx_pure ((Value.bool false)) rfl (fun _ => by kernel_rfl) ?_)
    refine Xg.ops_op (by kernel_rfl) (Xg.opx_pure ((Value.bool false)) rfl (fun _ => by kernel_rfl) ?_)
    refine Xg.ops_nil ?_
    refine Xg.at_false (t := false) (by kernel_rfl) rfl ?_
    refine Xg.at_seq ?_
    refine Xg.at_region ?_
    refine Xg.ops_op (by kernel_rfl) (Xg.opx_pure ((iv a)) rfl (fun _ => by kernel_rfl) ?_)
    refine Xg.ops_op (by kernel_rfl) (Xg.opx_pure (.bool (decide ((a : Int) < ((65344 : Int))))) rfl (fun _ => by kernel_rfl) ?_)
    refine Xg.ops_op (by kernel_rfl) (Xg.opx_pure ((Value.bool (decide (a < (65344 : Int))))) rfl (fun _ => by kernel_rfl) ?_)
    refine Xg.ops_flag (j := 46) (c := (decide (a < (65344 : Int)))) (by kernel_rfl) (fun xh6 => ?_) (fun xh6 => ?_)
    replace xh6 : (a < (65344 : Int)) := of_decide_eq_true xh6
    rotate_left
    replace xh6 : ¬ ((a < (65344 : Int))) := of_decide_eq_false xh6
    rotate_right
    refine Xg.ops_skip (by kernel_rfl) ?_
    refine Xg.ops_skip (by kernel_rfl) ?_
    refine Xg.ops_op (by kernel_rfl) (Xg.opx_pure ((Value.bool true)) rfl (fun _ => by kernel_rfl) ?_)
    refine Xg.ops_op (by kernel_rfl) (Xg.opx_pure ((Value.bool true)) rfl (fun _ => by kernel_rfl) ?_)
    refine Xg.ops_skip (by kernel_rfl) ?_
    refine Xg.ops_skip (by kernel_rfl) ?_
    refine Xg.ops_op (by kernel_rfl) (Xg.opx_pure ((Value.bool true)) rfl (fun _ => by kernel_rfl) ?_)
    refine Xg.ops_op (by kernel_rfl) (Xg.opx_pure ((Value.bool true)) rfl (fun _ => by kernel_rfl) ?_)
    refine Xg.ops_nil ?_
    refine Xg.at_true (t := true) (by kernel_rfl) rfl ?_
    refine Xg.at_seq ?_
    refine Xg.at_region ?_
    refine Xg.ops_op (by kernel_rfl) (Xg.opx_pure ((iv 255)) rfl (fun _ => by kernel_rfl) ?_)
    refine Xg.ops_nil ?_
    refine Xg.at_ret_ps (v := (iv 255)) [0] [PpR p σ] Go.Proofs.Try.func24 (fun _ => by kernel_rfl) (by kernel_rfl) (by kernel_rfl) ?_
    rotate_left
    refine Xg.ops_op (by kernel_rfl) (Xg.opx_pure ((iv a)) rfl (fun _ => by kernel_rfl) ?_)
    refine Xg.ops_op (by kernel_rfl) (Xg.opx_pure (.bool (decide ((a : Int) ≥ ((65356 : Int))))) rfl (fun _ => by kernel_rfl) ?_)
    refine Xg.ops_flag (j := 48) (c := (decide (a ≥ (65356 : Int)))) (by kernel_rfl) (fun xh7 => ?_) (fun xh7 => ?_)
    replace xh7 : (a ≥ (65356 : Int)) := of_decide_eq_true xh7
    rotate_left
    replace xh7 : ¬ ((a ≥ (65356 : Int))) := of_decide_eq_false xh7
    rotate_right
    refine Xg.ops_op (by kernel_rfl) (Xg.opx_pure ((Value.bool true)) rfl (fun _ => by kernel_rfl) ?_)
    refine Xg.ops_op (by kernel_rfl) (Xg.opx_pure ((Value.bool true)) rfl (fun _ => by kernel_rfl) ?_)
    refine Xg.ops_skip (by kernel_rfl) ?_
    refine Xg.ops_skip (by kernel_rfl) ?_
    refine Xg.ops_op (by kernel_rfl) (Xg.opx_pure ((Value.bool true)) rfl (fun _ => by kernel_rfl) ?_)
    refine Xg.ops_op (by kernel_rfl) (Xg.opx_pure ((Value.bool true)) rfl (fun _ => by kernel_rfl) ?_)
    refine Xg.ops_nil ?_
    refine Xg.at_true (t := true) (by kernel_rfl) rfl ?_
    refine Xg.at_seq ?_
    refine Xg.at_region ?_
    refine Xg.ops_op (by kernel_rfl) (Xg.opx_pure ((iv 255)) rfl (fun _ => by kernel_rfl) ?_)
    refine Xg.ops_nil ?_
    refine Xg.at_ret_ps (v := (iv 255)) [0] [PpR p σ] Go.Proofs.Try.func24 (fun _ => by kernel_rfl) (by kernel_rfl) (by kernel_rfl) ?_
    rotate_left
    refine Xg.ops_op (by kernel_rfl) (Xg.opx_pure ((Value.bool false)) rfl (fun _ => by kernel_rfl) ?_)
    refine Xg.ops_op (by kernel_rfl) (Xg.opx_pure ((Value.bool false)) rfl (fun _ => by kernel_rfl) ?_)
    refine Xg.ops_op (by kernel_rfl) (Xg.opx_pure ((iv a)) rfl (fun _ => by kernel_rfl) ?_)
    refine Xg.ops_op (by kernel_rfl) (Xg.opx_pure (.bool (decide ((a : Int) = ((65350 : Int))))) rfl (fun _ => by kernel_rfl) ?_)
    refine Xg.ops_flag (j := 52) (c := (decide (a = (65350 : Int)))) (by kernel_rfl) (fun xh8 => ?_) (fun xh8 => ?_)
    replace xh8 : (a = (65350 : Int)) := of_decide_eq_true xh8
    rotate_left
    replace xh8 : ¬ ((a = (65350 : Int))) := of_decide_eq_false xh8
    rotate_right
    refine Xg.ops_op (by kernel_rfl) (Xg.opx_pure ((Value.bool true)) rfl (fun _ => by kernel_rfl) ?_)
    refine Xg.ops_op (by kernel_rfl) (Xg.opx_pure ((Value.bool true)) rfl (fun _ => by kernel_rfl) ?_)
    refine Xg.ops_nil ?_
    refine Xg.at_true (t := true) (by kernel_rfl) rfl ?_
    refine Xg.at_seq ?_
    refine Xg.at_region ?_
    refine Xg.ops_op (by kernel_rfl) (Xg.opx_pure ((iv 255)) rfl (fun _ => by kernel_rfl) ?_)
    refine Xg.ops_nil ?_
    refine Xg.at_ret_ps (v := (iv 255)) [0] [PpR p σ] Go.Proofs.Try.func24 (fun _ => by kernel_rfl) (by kernel_rfl) (by kernel_rfl) ?_
    rotate_left
    refine Xg.ops_op (by kernel_rfl) (Xg.opx_pure ((Value.bool false)) rfl (fun _ => by kernel_rfl) ?_)
    refine Xg.ops_op (by kernel_rfl) (Xg.opx_pure ((Value.bool false)) rfl (fun _ => by kernel_rfl) ?_)
    refine Xg.ops_nil ?_
    refine Xg.at_false (t := false) (by kernel_rfl) rfl ?_
    refine Xg.at_skip ?_
    refine Xg.at_inBlock ?_
    refine Xg.at_seq ?_
    refine Xg.at_region ?_
    refine Xg.ops_op (by kernel_rfl) (Xg.opx_pure ((pv p 0)) rfl (fun _ => by kernel_rfl) ?_)
    refine Xg.ops_op (by kernel_rfl) (Xg.opx_pure ((iv a)) rfl (fun _ => by kernel_rfl) ?_)
    refine Xg.ops_op (by kernel_rfl) (Xg.opx_int .i64 (IntKind.wrap .i64 ((a - (65344 : Int)))) rfl (fun _ => by kernel_rfl) (Xg.wrap_i64_in (by omega)) ?_)
    refine Xg.ops_op (by kernel_rfl) (Xg.opx_pure ((pv p 0)) rfl (fun _ => by kernel_rfl) ?_)
    refine Xg.ops_op (by kernel_rfl) (Xg.opx_pure ((pv p 0)) rfl (fun _ => by kernel_rfl) ?_)
    refine Xg.ops_op (by kernel_rfl) (Xg.opx_run (.pointer (some (Addr.mk p ((a - (65344 : Int)).toNat) none))) rfl (Xg.run_ix_array' (elem := 3) (len := 12) (b := p) (off := ((0 : Nat))) (kd := .i64) (e := (a - (65344 : Int))) 1 ((a - (65344 : Int)).toNat) ((a - (65344 : Int)).toNat) (by kernel_rfl) (by kernel_rfl) (by kernel_rfl) (by kernel_rfl) (by omega) (by omega) (by omega)) ?_)
    refine Xg.ops_op (by kernel_rfl) (Xg.opx_load (b := p) (off := ((a - (65344 : Int)).toNat)) 0 (iv (σ.regs (a - (65344 : Int)).toNat)) rfl (by kernel_rfl) (@Go.Proofs.Ytkfclamiendamaa.g_regs (σ) (((a - (65344 : Int)).toNat)) (by omega)) (by kernel_rfl) ?_)
    refine Xg.ops_op (by kernel_rfl) (Xg.opx_pure ((iv (σ.regs (a - (65344 : Int)).toNat))) rfl (fun _ => by kernel_rfl) ?_)
    refine Xg.ops_nil ?_
    refine Xg.at_seq ?_
    refine Xg.at_seq ?_
    refine Xg.at_region ?_
    refine Xg.ops_op (by kernel_rfl) (Xg.opx_pure ((iv a)) rfl (fun _ => by kernel_rfl) ?_)
    refine Xg.ops_op (by kernel_rfl) (Xg.opx_pure (.bool (decide ((a : Int) = ((65345 : Int))))) rfl (fun _ => by kernel_rfl) ?_)
    refine Xg.ops_nil ?_
    refine Xg.at_dec (p := (a = (65345 : Int))) (by kernel_rfl) (fun xh9 => ?_) (fun xh9 => ?_)
    refine Xg.at_seq ?_
    refine Xg.at_region ?_
    refine Xg.ops_op (by kernel_rfl) (Xg.opx_pure ((iv (σ.regs (a - (65344 : Int)).toNat))) rfl (fun _ => by kernel_rfl) ?_)
    refine Xg.ops_op (by kernel_rfl) (Xg.opx_pure ((iv xx1)) rfl (fun _ => by kernel_rfl) ?_)
    refine Xg.ops_op (by kernel_rfl) (Xg.opx_pure (.int .i64 (Xg.bor .i64 (((128 : Int))) (xx1))) rfl (fun _ => by kernel_rfl) ?_)
    refine Xg.ops_op (by kernel_rfl) (Xg.opx_pure (.int .i64 (Xg.bor .i64 ((σ.regs (a - (65344 : Int)).toNat)) ((bor IntKind.i64 (128 : Int) xx1)))) rfl (fun _ => by kernel_rfl) ?_)
    refine Xg.ops_op (by kernel_rfl) (Xg.opx_pure ((iv (bor IntKind.i64 (σ.regs (a - (65344 : Int)).toNat) (bor IntKind.i64 (128 : Int) xx1)))) rfl (fun _ => by kernel_rfl) ?_)
    refine Xg.ops_nil ?_
    refine Xg.at_seq ?_
    refine Xg.at_draw [] [(4, [0, 1, 2, 3, 4, 5, 6, 7, 8, 9], Xg.CellIs (p) (((4 : Nat))) ((iv (σ.regs 4)))), (9, [0, 1, 2, 3, 4, 5, 6, 7, 8, 9], Xg.CellIs (p) (((5 : Nat))) ((iv (σ.regs 5))))] (by kernel_rfl) ?_
    refine Xg.any_pure ((pv p 0)) 0 (by kernel_rfl) rfl (by kernel_rfl) (by kernel_rfl) (by kernel_rfl) (by kernel_rfl) rfl (fun _ => by kernel_rfl) ?_
    refine Xg.any_pure ((pv p 0)) 1 (by kernel_rfl) rfl (by kernel_rfl) (by kernel_rfl) (by kernel_rfl) (by kernel_rfl) rfl (fun _ => by kernel_rfl) ?_
    refine Xg.any_pure ((pv p 0)) 2 (by kernel_rfl) rfl (by kernel_rfl) (by kernel_rfl) (by kernel_rfl) (by kernel_rfl) rfl (fun _ => by kernel_rfl) ?_
    refine Xg.any_pure (pv p 4) 3 (by kernel_rfl) rfl (by kernel_rfl) (by kernel_rfl) (by kernel_rfl) (by kernel_rfl) rfl (fun _ => by kernel_rfl) ?_
    refine Xg.any_reads (iv (σ.regs 4)) 4 0 (by kernel_rfl) rfl (by kernel_rfl) (by kernel_rfl) (by kernel_rfl) (by kernel_rfl) rfl rfl (by kernel_rfl) (Xg.cell_now (b := p) (off := ((4 : Nat))) 0 rfl (@Go.Proofs.Ytkfclamiendamaa.g_regs (σ) (((4 : Nat))) (by omega))) (fun _ h => Xg.run_load (by kernel_rfl) (by kernel_rfl) h) ?_
    refine Xg.any_pure ((pv p 0)) 5 (by kernel_rfl) rfl (by kernel_rfl) (by kernel_rfl) (by kernel_rfl) (by kernel_rfl) rfl (fun _ => by kernel_rfl) ?_
    refine Xg.any_pure ((pv p 0)) 6 (by kernel_rfl) rfl (by kernel_rfl) (by kernel_rfl) (by kernel_rfl) (by kernel_rfl) rfl (fun _ => by kernel_rfl) ?_
    refine Xg.any_pure ((pv p 0)) 7 (by kernel_rfl) rfl (by kernel_rfl) (by kernel_rfl) (by kernel_rfl) (by kernel_rfl) rfl (fun _ => by kernel_rfl) ?_
    refine Xg.any_pure (pv p 5) 8 (by kernel_rfl) rfl (by kernel_rfl) (by kernel_rfl) (by kernel_rfl) (by kernel_rfl) rfl (fun _ => by kernel_rfl) ?_
    refine Xg.any_reads (iv (σ.regs 5)) 9 1 (by kernel_rfl) rfl (by kernel_rfl) (by kernel_rfl) (by kernel_rfl) (by kernel_rfl) rfl rfl (by kernel_rfl) (Xg.cell_now (b := p) (off := ((5 : Nat))) 0 rfl (@Go.Proofs.Ytkfclamiendamaa.g_regs (σ) (((5 : Nat))) (by omega))) (fun _ h => Xg.run_load (by kernel_rfl) (by kernel_rfl) h) ?_
    refine Xg.any_pure (.bool (decide (((σ.regs 4) : Int) = (σ.regs 5)))) 10 (by kernel_rfl) rfl (by kernel_rfl) (by kernel_rfl) (by kernel_rfl) (by kernel_rfl) rfl (fun _ => by kernel_rfl) ?_
    refine Xg.any_nil (by kernel_rfl) ?_
    refine Xg.at_dec (p := (σ.regs 4 = σ.regs 5)) (by kernel_rfl) (fun xh10 => ?_) (fun xh10 => ?_)
    refine Xg.at_region ?_
    refine Xg.ops_op (by kernel_rfl) (Xg.opx_pure ((iv (bor IntKind.i64 (σ.regs (a - (65344 : Int)).toNat) (bor IntKind.i64 (128 : Int) xx1)))) rfl (fun _ => by kernel_rfl) ?_)
    refine Xg.ops_op (by kernel_rfl) (Xg.opx_pure (.int .i64 (Xg.bor .i64 ((bor IntKind.i64 (σ.regs (a - (65344 : Int)).toNat) (bor IntKind.i64 (128 : Int) xx1))) (((4 : Int))))) rfl (fun _ => by kernel_rfl) ?_)
    refine Xg.ops_op (by kernel_rfl) (Xg.opx_pure ((iv (bor IntKind.i64 (bor IntKind.i64 (σ.regs (a - (65344 : Int)).toNat) (bor IntKind.i64 (128 : Int) xx1)) (4 : Int)))) rfl (fun _ => by kernel_rfl) ?_)
    refine Xg.ops_nil ?_
    refine Xg.at_seq ?_
    refine Xg.at_region ?_
    refine Xg.ops_op (by kernel_rfl) (Xg.opx_pure ((iv (bor IntKind.i64 (bor IntKind.i64 (σ.regs (a - (65344 : Int)).toNat) (bor IntKind.i64 (128 : Int) xx1)) (4 : Int)))) rfl (fun _ => by kernel_rfl) ?_)
    refine Xg.ops_op (by kernel_rfl) (Xg.opx_pure ((iv (bor IntKind.i64 (bor IntKind.i64 (σ.regs (a - (65344 : Int)).toNat) (bor IntKind.i64 (128 : Int) xx1)) (4 : Int)))) rfl (fun _ => by kernel_rfl) ?_)
    refine Xg.ops_nil ?_
    refine Xg.at_ret_ps (v := (iv (bor IntKind.i64 (bor IntKind.i64 (σ.regs (a - (65344 : Int)).toNat) (bor IntKind.i64 (128 : Int) xx1)) (4 : Int)))) [0] [PpR p σ] Go.Proofs.Try.func24 (fun _ => by kernel_rfl) (by kernel_rfl) (by kernel_rfl) ?_
    rotate_left
    refine Xg.at_skip ?_
    refine Xg.at_seq ?_
    refine Xg.at_region ?_
    refine Xg.ops_op (by kernel_rfl) (Xg.opx_pure ((iv (bor IntKind.i64 (σ.regs (a - (65344 : Int)).toNat) (bor IntKind.i64 (128 : Int) xx1)))) rfl (fun _ => by kernel_rfl) ?_)
    refine Xg.ops_op (by kernel_rfl) (Xg.opx_pure ((iv (bor IntKind.i64 (σ.regs (a - (65344 : Int)).toNat) (bor IntKind.i64 (128 : Int) xx1)))) rfl (fun _ => by kernel_rfl) ?_)
    refine Xg.ops_nil ?_
    refine Xg.at_ret_ps (v := (iv (bor IntKind.i64 (σ.regs (a - (65344 : Int)).toNat) (bor IntKind.i64 (128 : Int) xx1)))) [0] [PpR p σ] Go.Proofs.Try.func24 (fun _ => by kernel_rfl) (by kernel_rfl) (by kernel_rfl) ?_
    rotate_left
    refine Xg.at_skip ?_
    refine Xg.at_seq ?_
    refine Xg.at_region ?_
    refine Xg.ops_op (by kernel_rfl) (Xg.opx_pure ((iv (σ.regs (a - (65344 : Int)).toNat))) rfl (fun _ => by kernel_rfl) ?_)
    refine Xg.ops_op (by kernel_rfl) (Xg.opx_pure ((iv (σ.regs (a - (65344 : Int)).toNat))) rfl (fun _ => by kernel_rfl) ?_)
    refine Xg.ops_nil ?_
    refine Xg.at_ret_ps (v := (iv (σ.regs (a - (65344 : Int)).toNat))) [0] [PpR p σ] Go.Proofs.Try.func24 (fun _ => by kernel_rfl) (by kernel_rfl) (by kernel_rfl) ?_
    rotate_left
    refine Xg.ops_skip (by kernel_rfl) ?_
    refine Xg.ops_skip (by kernel_rfl) ?_
    refine Xg.ops_op (by kernel_rfl) (Xg.opx_pure ((Value.bool false)) rfl (fun _ => by kernel_rfl) ?_)
    refine Xg.ops_op (by kernel_rfl) (Xg.opx_pure ((Value.bool false)) rfl (fun _ => by kernel_rfl) ?_)
    refine Xg.ops_nil ?_
    refine Xg.at_false (t := false) (by kernel_rfl) rfl ?_
    refine Xg.at_seq ?_
    refine Xg.at_region ?_
    refine Xg.ops_op (by kernel_rfl) (Xg.opx_pure ((iv a)) rfl (fun _ => by kernel_rfl) ?_)
    refine Xg.ops_op (by kernel_rfl) (Xg.opx_pure (.bool (decide ((a : Int) < ((65344 : Int))))) rfl (fun _ => by kernel_rfl) ?_)
    refine Xg.ops_op (by kernel_rfl) (Xg.opx_pure ((Value.bool (decide (a < (65344 : Int))))) rfl (fun _ => by kernel_rfl) ?_)
    refine Xg.ops_flag (j := 46) (c := (decide (a < (65344 : Int)))) (by kernel_rfl) (fun _ => ?_) (fun xh5 => absurd (of_decide_eq_false xh5) (by omega))
    refine Xg.ops_skip (by kernel_rfl) ?_
    refine Xg.ops_skip (by kernel_rfl) ?_
    refine Xg.ops_op (by kernel_rfl) (Xg.opx_pure ((Value.bool true)) rfl (fun _ => by kernel_rfl) ?_)
    refine Xg.ops_op (by kernel_rfl) (Xg.opx_pure ((Value.bool true)) rfl (fun _ => by kernel_rfl) ?_)
    refine Xg.ops_skip (by kernel_rfl) ?_
    refine Xg.ops_skip (by kernel_rfl) ?_
    refine Xg.ops_op (by kernel_rfl) (Xg.opx_pure ((Value.bool true)) rfl (fun _ => by kernel_rfl) ?_)
    refine Xg.ops_op (by kernel_rfl) (Xg.opx_pure ((Value.bool true)) rfl (fun _ => by kernel_rfl) ?_)
    refine Xg.ops_nil ?_
    refine Xg.at_true (t := true) (by kernel_rfl) rfl ?_
    refine Xg.at_seq ?_
    refine Xg.at_region ?_
    refine Xg.ops_op (by kernel_rfl) (Xg.opx_pure ((iv 255)) rfl (fun _ => by kernel_rfl) ?_)
    refine Xg.ops_nil ?_
    refine Xg.at_ret_ps (v := (iv 255)) [0] [PpR p σ] Go.Proofs.Try.func24 (fun _ => by kernel_rfl) (by kernel_rfl) (by kernel_rfl) ?_
    rotate_left
    refine Xg.ops_skip (by kernel_rfl) ?_
    refine Xg.ops_skip (by kernel_rfl) ?_
    refine Xg.ops_op (by kernel_rfl) (Xg.opx_pure ((Value.bool false)) rfl (fun _ => by kernel_rfl) ?_)
    refine Xg.ops_op (by kernel_rfl) (Xg.opx_pure ((Value.bool false)) rfl (fun _ => by kernel_rfl) ?_)
    refine Xg.ops_nil ?_
    refine Xg.at_false (t := false) (by kernel_rfl) rfl ?_
    refine Xg.at_seq ?_
    refine Xg.at_region ?_
    refine Xg.ops_op (by kernel_rfl) (Xg.opx_pure ((iv a)) rfl (fun _ => by kernel_rfl) ?_)
    refine Xg.ops_op (by kernel_rfl) (Xg.opx_pure (.bool (decide ((a : Int) ≥ ((65024 : Int))))) rfl (fun _ => by kernel_rfl) ?_)
    refine Xg.ops_op (by kernel_rfl) (Xg.opx_pure ((Value.bool (decide (a ≥ (65024 : Int))))) rfl (fun _ => by kernel_rfl) ?_)
    refine Xg.ops_flag (j := 29) (c := (decide (a ≥ (65024 : Int)))) (by kernel_rfl) (fun xh3 => absurd (of_decide_eq_true xh3) (by omega)) (fun _ => ?_)
    refine Xg.ops_skip (by kernel_rfl) ?_
    refine Xg.ops_skip (by kernel_rfl) ?_
    refine Xg.ops_op (by kernel_rfl) (Xg.opx_pure ((Value.bool false)) rfl (fun _ => by kernel_rfl) ?_)
    refine Xg.ops_op (by kernel_rfl) (Xg.opx_pure ((Value.bool false)) rfl (fun _ => by kernel_rfl) ?_)
    refine Xg.ops_nil ?_
    refine Xg.at_false (t := false) (by kernel_rfl) rfl ?_
    refine Xg.at_seq ?_
    refine Xg.at_region ?_
    refine Xg.ops_op (by kernel_rfl) (Xg.opx_pure ((iv a)) rfl (fun _ => by kernel_rfl) ?_)
    refine Xg.ops_op (by kernel_rfl) (Xg.opx_pure (.bool (decide ((a : Int) < ((65344 : Int))))) rfl (fun _ => by kernel_rfl) ?_)
    refine Xg.ops_op (by kernel_rfl) (Xg.opx_pure ((Value.bool (decide (a < (65344 : Int))))) rfl (fun _ => by kernel_rfl) ?_)
    refine Xg.ops_flag (j := 46) (c := (decide (a < (65344 : Int)))) (by kernel_rfl) (fun _ => ?_) (fun xh3 => absurd (of_decide_eq_false xh3) (by omega))
    refine Xg.ops_skip (by kernel_rfl) ?_
    refine Xg.ops_skip (by kernel_rfl) ?_
    refine Xg.ops_op (by kernel_rfl) (Xg.opx_pure ((Value.bool true)) rfl (fun _ => by kernel_rfl) ?_)
    refine Xg.ops_op (by kernel_rfl) (Xg.opx_pure ((Value.bool true)) rfl (fun _ => by kernel_rfl) ?_)
    refine Xg.ops_skip (by kernel_rfl) ?_
    refine Xg.ops_skip (by kernel_rfl) ?_
    refine Xg.ops_op (by kernel_rfl) (Xg.opx_pure ((Value.bool true)) rfl (fun _ => by kernel_rfl) ?_)
    refine Xg.ops_op (by kernel_rfl) (Xg.opx_pure ((Value.bool true)) rfl (fun _ => by kernel_rfl) ?_)
    refine Xg.ops_nil ?_
    refine Xg.at_true (t := true) (by kernel_rfl) rfl ?_
    refine Xg.at_seq ?_
    refine Xg.at_region ?_
    refine Xg.ops_op (by kernel_rfl) (Xg.opx_pure ((iv 255)) rfl (fun _ => by kernel_rfl) ?_)
    refine Xg.ops_nil ?_
    refine Xg.at_ret_ps (v := (iv 255)) [0] [PpR p σ] Go.Proofs.Try.func24 (fun _ => by kernel_rfl) (by kernel_rfl) (by kernel_rfl) ?_)
  all_goals
    refine ⟨congrArg (Value.int .i64) ?_, rfl⟩
    unfold readI
    (repeat' split) <;> first | rfl | (exfalso; omega) | omega | simp_all

/-- A register that is written. -/
def begP (σ : Pp) : Pp := { σ with regs := upd σ.regs 4 0, clock := 0, seen := false, rows := 0 }
def setP (σ : Pp) (r v : Int) : Pp :=
  if r = 4 ∨ r = 6 then σ
  else if r = 1 then { σ with regs := upd σ.regs 1 (band .i64 v 120) }
  else if r = 0 then
    (if hasB (σ.regs 0) 7 = hasB v 7 then { σ with regs := upd σ.regs 0 v }
     else if hasB (σ.regs 0) 7 = true then { begP { σ with regs := upd σ.regs 0 v } with last := fun _ => 0, now := fun _ => 0 } else begP { σ with regs := upd σ.regs 0 v })
  else { σ with regs := upd σ.regs r.toNat v }

set_option maxHeartbeats 0 in
theorem set_d (p : Nat) (σ : Pp) (hσ : σ.Wf) (r v : Int) (hr : 0 ≤ r ∧ r ≤ 11) (hv : 0 ≤ v ∧ v ≤ 255) : Does Try.prog 50 [pt p, .int .i64 r, .int .i64 v] [PpR p σ] (Ret (.tuple #[]) [PpR p (setP σ r v)]) := by
  have h0 := hσ.regs 0
  (focus
    refine Xg.spec_of Go.Proofs.Try.func50 rfl Go.Proofs.Try.ntmps50 fun g F => ?_)
  (focus
    refine Xg.at_seq ?_
    refine Xg.at_region ?_
    refine Xg.ops_op (by kernel_rfl) (Xg.opx_pure ((iv r)) rfl (fun _ => by kernel_rfl) ?_)
    refine Xg.ops_nil ?_
    refine Xg.at_block ?_
    refine Xg.at_seq ?_
    refine Xg.at_seq ?_
    refine Xg.at_region ?_
    refine Xg.ops_op (by kernel_rfl) (Xg.opx_pure (.bool (decide ((r : Int) = ((4 : Int))))) rfl (fun _ => by kernel_rfl) ?_)
    refine Xg.ops_op (by kernel_rfl) (Xg.opx_pure ((Value.bool (decide (r = (4 : Int))))) rfl (fun _ => by kernel_rfl) ?_)
    refine Xg.ops_nil ?_
    refine Xg.at_dec (p := (r = (4 : Int))) (by kernel_rfl) (fun xh1 => ?_) (fun xh1 => ?_)
    refine Xg.at_skip ?_
    refine Xg.at_true (t := decide ((r = (4 : Int)))) (by kernel_rfl) (decide_eq_true (by omega)) ?_
    refine Xg.at_skip ?_
    refine Xg.at_inBlock ?_
    refine Xg.at_end_ps (v := (tu)) [0] [PpR p σ] Go.Proofs.Try.func50 (fun _ => by kernel_rfl) (by kernel_rfl) (by kernel_rfl) ?_
    rotate_left
    refine Xg.at_region ?_
    refine Xg.ops_op (by kernel_rfl) (Xg.opx_pure (.bool (decide ((r : Int) = ((6 : Int))))) rfl (fun _ => by kernel_rfl) ?_)
    refine Xg.ops_op (by kernel_rfl) (Xg.opx_pure ((Value.bool (decide (r = (6 : Int))))) rfl (fun _ => by kernel_rfl) ?_)
    refine Xg.ops_nil ?_
    refine Xg.at_dec (p := (r = (6 : Int))) (by kernel_rfl) (fun xh2 => ?_) (fun xh2 => ?_)
    refine Xg.at_skip ?_
    refine Xg.at_inBlock ?_
    refine Xg.at_end_ps (v := (tu)) [0] [PpR p σ] Go.Proofs.Try.func50 (fun _ => by kernel_rfl) (by kernel_rfl) (by kernel_rfl) ?_
    rotate_left
    refine Xg.at_seq ?_
    refine Xg.at_region ?_
    refine Xg.ops_op (by kernel_rfl) (Xg.opx_pure (.bool (decide ((r : Int) = ((1 : Int))))) rfl (fun _ => by kernel_rfl) ?_)
    refine Xg.ops_op (by kernel_rfl) (Xg.opx_pure ((Value.bool (decide (r = (1 : Int))))) rfl (fun _ => by kernel_rfl) ?_)
    refine Xg.ops_nil ?_
    refine Xg.at_dec (p := (r = (1 : Int))) (by kernel_rfl) (fun xh3 => ?_) (fun xh3 => ?_)
    refine Xg.at_region ?_
    refine Xg.ops_op (by kernel_rfl) (Xg.opx_pure ((pv p 0)) rfl (fun _ => by kernel_rfl) ?_)
    refine Xg.ops_op (by kernel_rfl) (Xg.opx_pure ((iv v)) rfl (fun _ => by kernel_rfl) ?_)
    refine Xg.ops_op (by kernel_rfl) (Xg.opx_pure (.int .i64 (Xg.band .i64 (v) (((120 : Int))))) rfl (fun _ => by kernel_rfl) ?_)
    refine Xg.ops_op (by kernel_rfl) (Xg.opx_pure ((pv p 0)) rfl (fun _ => by kernel_rfl) ?_)
    refine Xg.ops_op (by kernel_rfl) (Xg.opx_pure ((pv p 0)) rfl (fun _ => by kernel_rfl) ?_)
    refine Xg.ops_op (by kernel_rfl) (Xg.opx_pure (pv p 1) rfl (fun _ => by kernel_rfl) ?_)
    refine Xg.ops_op (by kernel_rfl) (Xg.opx_store_c (off := ((1 : Nat))) (cs' := (ppc (Pp.mk (upd σ.regs 1 (band IntKind.i64 v (120 : Int))) σ.vram σ.oam σ.clock σ.seen σ.rows σ.now σ.last))) 0 (iv (band IntKind.i64 v (120 : Int))) (by kernel_rfl) rfl (by kernel_rfl) (by kernel_rfl) (by kernel_rfl) (@Go.Proofs.Ytkfclamiendamaa.s_regs (σ) (((1 : Nat))) ((band IntKind.i64 v (120 : Int))) (by omega)) ?_)
    refine Xg.ops_nil ?_
    refine Xg.at_inBlock ?_
    refine Xg.at_end_ps (v := (tu)) [0] [row p (77 : TypeId) (ppc (Pp.mk (upd σ.regs 1 (band IntKind.i64 v (120 : Int))) σ.vram σ.oam σ.clock σ.seen σ.rows σ.now σ.last))] Go.Proofs.Try.func50 (fun _ => by kernel_rfl) (by kernel_rfl) (by kernel_rfl) ?_
    rotate_left
    refine Xg.at_seq ?_
    refine Xg.at_region ?_
    refine Xg.ops_op (by kernel_rfl) (Xg.opx_pure (.bool (decide ((r : Int) = ((0 : Int))))) rfl (fun _ => by kernel_rfl) ?_)
    refine Xg.ops_op (by kernel_rfl) (Xg.opx_pure ((Value.bool (decide (r = (0 : Int))))) rfl (fun _ => by kernel_rfl) ?_)
    refine Xg.ops_nil ?_
    refine Xg.at_dec (p := (r = (0 : Int))) (by kernel_rfl) (fun xh4 => ?_) (fun xh4 => ?_)
    refine Xg.at_seq ?_
    refine Xg.at_region ?_
    refine Xg.ops_op (by kernel_rfl) (Xg.opx_pure ((pv p 0)) rfl (fun _ => by kernel_rfl) ?_)
    refine Xg.ops_op (by kernel_rfl) (Xg.opx_call1' [0] [PpR p σ] (fun _ => by kernel_rfl) (@Go.Proofs.Ytkfclamiendamaa.on_d (p) (σ) (by omega)) (by kernel_rfl) (by kernel_rfl) (by kernel_rfl) ?_)
    refine Xg.ops_op (by kernel_rfl) (Xg.opx_pure ((Value.bool (hasB (σ.regs 0) (7 : Nat)))) rfl (fun _ => by kernel_rfl) ?_)
    refine Xg.ops_nil ?_
    refine Xg.at_seq ?_
    refine Xg.at_region ?_
    refine Xg.ops_op (by kernel_rfl) (Xg.opx_pure ((pv p 0)) rfl (fun _ => by kernel_rfl) ?_)
    refine Xg.ops_op (by kernel_rfl) (Xg.opx_pure ((iv v)) rfl (fun _ => by kernel_rfl) ?_)
    refine Xg.ops_op (by kernel_rfl) (Xg.opx_pure ((pv p 0)) rfl (fun _ => by kernel_rfl) ?_)
    refine Xg.ops_op (by kernel_rfl) (Xg.opx_pure ((pv p 0)) rfl (fun _ => by kernel_rfl) ?_)
    refine Xg.ops_op (by kernel_rfl) (Xg.opx_pure (pv p 0) rfl (fun _ => by kernel_rfl) ?_)
    refine Xg.ops_op (by kernel_rfl) (Xg.opx_store_c (off := ((0 : Nat))) (cs' := (ppc (Pp.mk (upd σ.regs 0 v) σ.vram σ.oam σ.clock σ.seen σ.rows σ.now σ.last))) 0 (iv v) (by kernel_rfl) rfl (by kernel_rfl) (by kernel_rfl) (by kernel_rfl) (@Go.Proofs.Ytkfclamiendamaa.s_regs (σ) (((0 : Nat))) (v) (by omega)) ?_)
    refine Xg.ops_nil ?_
    refine Xg.at_seq ?_
    refine Xg.at_seq ?_
    refine Xg.at_region ?_
    refine Xg.ops_op (by kernel_rfl) (Xg.opx_pure ((Value.bool (hasB (σ.regs 0) (7 : Nat)))) rfl (fun _ => by kernel_rfl) ?_)
    refine Xg.ops_op (by kernel_rfl) (Xg.opx_pure ((pv p 0)) rfl (fun _ => by kernel_rfl) ?_)
    refine Xg.ops_op (by kernel_rfl) (Xg.opx_call1' [0] [PpR p (Pp.mk (upd σ.regs 0 v) σ.vram σ.oam σ.clock σ.seen σ.rows σ.now σ.last)] (fun _ => by kernel_rfl) (@Go.Proofs.Ytkfclamiendamaa.on_d (p) ((Pp.mk (upd σ.regs 0 v) σ.vram σ.oam σ.clock σ.seen σ.rows σ.now σ.last)) (by assumption)) (by kernel_rfl) (by kernel_rfl) (by kernel_rfl) ?_)
    refine Xg.ops_flag (j := 36) (c := (hasB v (7 : Nat))) (by kernel_rfl) (fun xh5 => ?_) (fun xh5 => ?_)
    refine Xg.ops_op (by kernel_rfl) (Xg.opx_eq (v := ((Value.bool !hasB (σ.regs 0) (7 : Nat) == true))) (.bool (!(hasB (σ.regs 0) (7 : Nat)))) rfl (fun _ => by kernel_rfl) (by generalize ((hasB (σ.regs 0) (7 : Nat)) : Bool) = bb; cases bb <;> rfl) ?_)
    refine Xg.ops_nil ?_
    refine Xg.at_cond (t := (!hasB (σ.regs 0) (7 : Nat))) (by kernel_rfl) (fun xh6 => ?_) (fun xh6 => ?_)
    replace xh6 : (hasB (σ.regs (0 : Nat)) (7 : Nat)) = false := by simpa using xh6
    rotate_left
    replace xh6 : (hasB (σ.regs (0 : Nat)) (7 : Nat)) = true := by simpa using xh6
    rotate_right
    refine Xg.at_region ?_
    refine Xg.ops_op (by kernel_rfl) (Xg.opx_pure ((pv p 0)) rfl (fun _ => by kernel_rfl) ?_)
    refine Xg.ops_op (by kernel_rfl) (Xg.opx_call1' [0] [PpR p (Pp.mk (upd (upd σ.regs 0 v) (4 : Nat) (0 : Int)) σ.vram σ.oam (0 : Int) false (0 : Int) σ.now σ.last)] (fun _ => by kernel_rfl) (@Go.Proofs.Ytkfclamiendamaa.begin_d (p) ((Pp.mk (upd σ.regs 0 v) σ.vram σ.oam σ.clock σ.seen σ.rows σ.now σ.last))) (by kernel_rfl) (by kernel_rfl) (by kernel_rfl) ?_)
    refine Xg.ops_nil ?_
    refine Xg.at_seq ?_
    refine Xg.at_region ?_
    refine Xg.ops_op (by kernel_rfl) (Xg.opx_pure ((Value.bool (hasB (σ.regs 0) (7 : Nat)))) rfl (fun _ => by kernel_rfl) ?_)
    refine Xg.ops_op (by kernel_rfl) (Xg.opx_pure ((Value.bool (hasB (σ.regs 0) (7 : Nat)))) rfl (fun _ => by kernel_rfl) ?_)
    refine Xg.ops_flag (j := 41) (c := (hasB (σ.regs 0) (7 : Nat))) (by kernel_rfl) (fun xh7 => ?_) (fun xh7 => ?_)
    refine Xg.ops_op (by kernel_rfl) (Xg.opx_pure ((pv p 0)) rfl (fun _ => by kernel_rfl) ?_)
    refine Xg.ops_op (by kernel_rfl) (Xg.opx_call1' [0] [PpR p (Pp.mk (upd (upd σ.regs 0 v) (4 : Nat) (0 : Int)) σ.vram σ.oam (0 : Int) false (0 : Int) σ.now σ.last)] (fun _ => by kernel_rfl) (@Go.Proofs.Ytkfclamiendamaa.on_d (p) ((Pp.mk (upd (upd σ.regs 0 v) (4 : Nat) (0 : Int)) σ.vram σ.oam (0 : Int) false (0 : Int) σ.now σ.last)) (by assumption)) (by kernel_rfl) (by kernel_rfl) (by kernel_rfl) ?_)
    refine Xg.ops_op (by kernel_rfl) (Xg.opx_pure (.bool (!(hasB v (7 : Nat)))) rfl (fun _ => by kernel_rfl) ?_)
    refine Xg.ops_flag (j := 44) (c := (!hasB v (7 : Nat))) (by kernel_rfl) (fun xh8 => ?_) (fun xh8 => ?_)
    replace xh8 : (hasB v (7 : Nat)) = false := by simpa using xh8
    rotate_left
    replace xh8 : (hasB v (7 : Nat)) = true := by simpa using xh8
    rotate_right
    refine Xg.ops_op (by kernel_rfl) (Xg.opx_pure ((Value.bool true)) rfl (fun _ => by kernel_rfl) ?_)
    refine Xg.ops_nil ?_
    refine Xg.at_true (t := true) (by kernel_rfl) rfl ?_
    refine Xg.at_seq ?_
    refine Xg.at_region ?_
    refine Xg.ops_op (by kernel_rfl) (Xg.opx_pure ((pv p 0)) rfl (fun _ => by kernel_rfl) ?_)
    refine Xg.ops_op (by kernel_rfl) (Xg.opx_pure ((pv p 0)) rfl (fun _ => by kernel_rfl) ?_)
    refine Xg.ops_op (by kernel_rfl) (Xg.opx_pure ((pv p 31407)) rfl (fun _ => by kernel_rfl) ?_)
    refine Xg.ops_op (by kernel_rfl) (Xg.opx_pure (Value.slice (some (Addr.mk p (31407 : Nat) none)) (23040 : Nat) (23040 : Nat)) rfl (fun _ => by kernel_rfl) ?_)
    refine Xg.ops_op (by kernel_rfl) (Xg.opx_clear_c (elem := 5) (kd := .u8) (off := ((31407 : Nat))) (n := ((23040 : Nat))) (c := ((23040 : Nat))) (cs' := (ppc (Pp.mk (upd (upd σ.regs 0 v) (4 : Nat) (0 : Int)) σ.vram σ.oam (0 : Int) false (0 : Int) σ.now fun (x : Nat) => (0 : Int)))) 0 1 (by kernel_rfl) (by kernel_rfl) rfl (by kernel_rfl) (by omega) (@Go.Proofs.Ytkfclamiendamaa.z_last ((Pp.mk (upd (upd σ.regs 0 v) (4 : Nat) (0 : Int)) σ.vram σ.oam (0 : Int) false (0 : Int) σ.now σ.last))) ?_)
    refine Xg.ops_nil ?_
    refine Xg.at_region ?_
    refine Xg.ops_op (by kernel_rfl) (Xg.opx_pure ((pv p 0)) rfl (fun _ => by kernel_rfl) ?_)
    refine Xg.ops_op (by kernel_rfl) (Xg.opx_pure ((pv p 0)) rfl (fun _ => by kernel_rfl) ?_)
    refine Xg.ops_op (by kernel_rfl) (Xg.opx_pure ((pv p 8367)) rfl (fun _ => by kernel_rfl) ?_)
    refine Xg.ops_op (by kernel_rfl) (Xg.opx_pure (Value.slice (some (Addr.mk p (8367 : Nat) none)) (23040 : Nat) (23040 : Nat)) rfl (fun _ => by kernel_rfl) ?_)
    refine Xg.ops_op (by kernel_rfl) (Xg.opx_clear_c (elem := 5) (kd := .u8) (off := ((8367 : Nat))) (n := ((23040 : Nat))) (c := ((23040 : Nat))) (cs' := (ppc (Pp.mk (Pp.mk (upd (upd σ.regs 0 v) (4 : Nat) (0 : Int)) σ.vram σ.oam (0 : Int) false (0 : Int) σ.now fun (x : Nat) => (0 : Int)).regs (Pp.mk (upd (upd σ.regs 0 v) (4 : Nat) (0 : Int)) σ.vram σ.oam (0 : Int) false (0 : Int) σ.now fun (x : Nat) => (0 : Int)).vram (Pp.mk (upd (upd σ.regs 0 v) (4 : Nat) (0 : Int)) σ.vram σ.oam (0 : Int) false (0 : Int) σ.now fun (x : Nat) => (0 : Int)).oam (Pp.mk (upd (upd σ.regs 0 v) (4 : Nat) (0 : Int)) σ.vram σ.oam (0 : Int) false (0 : Int) σ.now fun (x : Nat) => (0 : Int)).clock (Pp.mk (upd (upd σ.regs 0 v) (4 : Nat) (0 : Int)) σ.vram σ.oam (0 : Int) false (0 : Int) σ.now fun (x : Nat) => (0 : Int)).seen (Pp.mk (upd (upd σ.regs 0 v) (4 : Nat) (0 : Int)) σ.vram σ.oam (0 : Int) false (0 : Int) σ.now fun (x : Nat) => (0 : Int)).rows (fun (x : Nat) => (0 : Int)) (Pp.mk (upd (upd σ.regs 0 v) (4 : Nat) (0 : Int)) σ.vram σ.oam (0 : Int) false (0 : Int) σ.now fun (x : Nat) => (0 : Int)).last))) 0 1 (by kernel_rfl) (by kernel_rfl) rfl (by kernel_rfl) (by omega) (@Go.Proofs.Ytkfclamiendamaa.z_now ((Pp.mk (upd (upd σ.regs 0 v) (4 : Nat) (0 : Int)) σ.vram σ.oam (0 : Int) false (0 : Int) σ.now fun (x : Nat) => (0 : Int)))) ?_)
    refine Xg.ops_nil ?_
    refine Xg.at_inBlock ?_
    refine Xg.at_end_ps (v := (tu)) [0] [row p (77 : TypeId) (ppc (Pp.mk (Pp.mk (upd (upd σ.regs 0 v) (4 : Nat) (0 : Int)) σ.vram σ.oam (0 : Int) false (0 : Int) σ.now fun (x : Nat) => (0 : Int)).regs (Pp.mk (upd (upd σ.regs 0 v) (4 : Nat) (0 : Int)) σ.vram σ.oam (0 : Int) false (0 : Int) σ.now fun (x : Nat) => (0 : Int)).vram (Pp.mk (upd (upd σ.regs 0 v) (4 : Nat) (0 : Int)) σ.vram σ.oam (0 : Int) false (0 : Int) σ.now fun (x : Nat) => (0 : Int)).oam (Pp.mk (upd (upd σ.regs 0 v) (4 : Nat) (0 : Int)) σ.vram σ.oam (0 : Int) false (0 : Int) σ.now fun (x : Nat) => (0 : Int)).clock (Pp.mk (upd (upd σ.regs 0 v) (4 : Nat) (0 : Int)) σ.vram σ.oam (0 : Int) false (0 : Int) σ.now fun (x : Nat) => (0 : Int)).seen (Pp.mk (upd (upd σ.regs 0 v) (4 : Nat) (0 : Int)) σ.vram σ.oam (0 : Int) false (0 : Int) σ.now fun (x : Nat) => (0 : Int)).rows (fun (x : Nat) => (0 : Int)) (Pp.mk (upd (upd σ.regs 0 v) (4 : Nat) (0 : Int)) σ.vram σ.oam (0 : Int) false (0 : Int) σ.now fun (x : Nat) => (0 : Int)).last))] Go.Proofs.Try.func50 (fun _ => by kernel_rfl) (by kernel_rfl) (by kernel_rfl) ?_
    rotate_left
    refine Xg.ops_op (by kernel_rfl) (Xg.opx_pure ((Value.bool false)) rfl (fun _ => by kernel_rfl) ?_)
    refine Xg.ops_nil ?_
    refine Xg.at_false (t := false) (by kernel_rfl) rfl ?_
    refine Xg.at_skip ?_
    refine Xg.at_inBlock ?_
    refine Xg.at_end_ps (v := (tu)) [0] [PpR p (Pp.mk (upd (upd σ.regs 0 v) (4 : Nat) (0 : Int)) σ.vram σ.oam (0 : Int) false (0 : Int) σ.now σ.last)] Go.Proofs.Try.func50 (fun _ => by kernel_rfl) (by kernel_rfl) (by kernel_rfl) ?_
    rotate_left
    refine Xg.ops_skip (by kernel_rfl) ?_
    refine Xg.ops_skip (by kernel_rfl) ?_
    refine Xg.ops_skip (by kernel_rfl) ?_
    refine Xg.ops_op (by kernel_rfl) (Xg.opx_pure ((Value.bool false)) rfl (fun _ => by kernel_rfl) ?_)
    refine Xg.ops_nil ?_
    refine Xg.at_false (t := false) (by kernel_rfl) rfl ?_
    refine Xg.at_skip ?_
    refine Xg.at_inBlock ?_
    refine Xg.at_end_ps (v := (tu)) [0] [PpR p (Pp.mk (upd (upd σ.regs 0 v) (4 : Nat) (0 : Int)) σ.vram σ.oam (0 : Int) false (0 : Int) σ.now σ.last)] Go.Proofs.Try.func50 (fun _ => by kernel_rfl) (by kernel_rfl) (by kernel_rfl) ?_
    rotate_left
    refine Xg.at_skip ?_
    refine Xg.at_seq ?_
    refine Xg.at_region ?_
    refine Xg.ops_op (by kernel_rfl) (Xg.opx_pure ((Value.bool (hasB (σ.regs 0) (7 : Nat)))) rfl (fun _ => by kernel_rfl) ?_)
    refine Xg.ops_op (by kernel_rfl) (Xg.opx_pure ((Value.bool (hasB (σ.regs 0) (7 : Nat)))) rfl (fun _ => by kernel_rfl) ?_)
    refine Xg.ops_flag (j := 41) (c := (hasB (σ.regs 0) (7 : Nat))) (by kernel_rfl) (fun xh7 => ?_) (fun xh7 => ?_)
    refine Xg.ops_op (by kernel_rfl) (Xg.opx_pure ((pv p 0)) rfl (fun _ => by kernel_rfl) ?_)
    refine Xg.ops_op (by kernel_rfl) (Xg.opx_call1' [0] [PpR p (Pp.mk (upd σ.regs 0 v) σ.vram σ.oam σ.clock σ.seen σ.rows σ.now σ.last)] (fun _ => by kernel_rfl) (@Go.Proofs.Ytkfclamiendamaa.on_d (p) ((Pp.mk (upd σ.regs 0 v) σ.vram σ.oam σ.clock σ.seen σ.rows σ.now σ.last)) (by assumption)) (by kernel_rfl) (by kernel_rfl) (by kernel_rfl) ?_)
    refine Xg.ops_op (by kernel_rfl) (Xg.opx_pure (.bool (!(hasB v (7 : Nat)))) rfl (fun _ => by kernel_rfl) ?_)
    refine Xg.ops_flag (j := 44) (c := (!hasB v (7 : Nat))) (by kernel_rfl) (fun xh8 => ?_) (fun xh8 => ?_)
    replace xh8 : (hasB v (7 : Nat)) = false := by simpa using xh8
    rotate_left
    replace xh8 : (hasB v (7 : Nat)) = true := by simpa using xh8
    rotate_right
    refine Xg.ops_op (by kernel_rfl) (Xg.opx_pure ((Value.bool true)) rfl (fun _ => by kernel_rfl) ?_)
    refine Xg.ops_nil ?_
    refine Xg.at_true (t := true) (by kernel_rfl) rfl ?_
    refine Xg.at_seq ?_
    refine Xg.at_region ?_
    refine Xg.ops_op (by kernel_rfl) (Xg.opx_pure ((pv p 0)) rfl (fun _ => by kernel_rfl) ?_)
    refine Xg.ops_op (by kernel_rfl) (Xg.opx_pure ((pv p 0)) rfl (fun _ => by kernel_rfl) ?_)
    refine Xg.ops_op (by kernel_rfl) (Xg.opx_pure ((pv p 31407)) rfl (fun _ => by kernel_rfl) ?_)
    refine Xg.ops_op (by kernel_rfl) (Xg.opx_pure (Value.slice (some (Addr.mk p (31407 : Nat) none)) (23040 : Nat) (23040 : Nat)) rfl (fun _ => by kernel_rfl) ?_)
    refine Xg.ops_op (by kernel_rfl) (Xg.opx_clear_c (elem := 5) (kd := .u8) (off := ((31407 : Nat))) (n := ((23040 : Nat))) (c := ((23040 : Nat))) (cs' := (ppc (Pp.mk (upd σ.regs 0 v) σ.vram σ.oam σ.clock σ.seen σ.rows σ.now fun (x : Nat) => (0 : Int)))) 0 1 (by kernel_rfl) (by kernel_rfl) rfl (by kernel_rfl) (by omega) (@Go.Proofs.Ytkfclamiendamaa.z_last ((Pp.mk (upd σ.regs 0 v) σ.vram σ.oam σ.clock σ.seen σ.rows σ.now σ.last))) ?_)
    refine Xg.ops_nil ?_
    refine Xg.at_region ?_
    refine Xg.ops_op (by kernel_rfl) (Xg.opx_pure ((pv p 0)) rfl (fun _ => by kernel_rfl) ?_)
    refine Xg.ops_op (by kernel_rfl) (Xg.opx_pure ((pv p 0)) rfl (fun _ => by kernel_rfl) ?_)
    refine Xg.ops_op (by kernel_rfl) (Xg.opx_pure ((pv p 8367)) rfl (fun _ => by kernel_rfl) ?_)
    refine Xg.ops_op (by kernel_rfl) (Xg.opx_pure (Value.slice (some (Addr.mk p (8367 : Nat) none)) (23040 : Nat) (23040 : Nat)) rfl (fun _ => by kernel_rfl) ?_)
    refine Xg.ops_op (by kernel_rfl) (Xg.opx_clear_c (elem := 5) (kd := .u8) (off := ((8367 : Nat))) (n := ((23040 : Nat))) (c := ((23040 : Nat))) (cs' := (ppc (Pp.mk (Pp.mk (upd σ.regs 0 v) σ.vram σ.oam σ.clock σ.seen σ.rows σ.now fun (x : Nat) => (0 : Int)).regs (Pp.mk (upd σ.regs 0 v) σ.vram σ.oam σ.clock σ.seen σ.rows σ.now fun (x : Nat) => (0 : Int)).vram (Pp.mk (upd σ.regs 0 v) σ.vram σ.oam σ.clock σ.seen σ.rows σ.now fun (x : Nat) => (0 : Int)).oam (Pp.mk (upd σ.regs 0 v) σ.vram σ.oam σ.clock σ.seen σ.rows σ.now fun (x : Nat) => (0 : Int)).clock (Pp.mk (upd σ.regs 0 v) σ.vram σ.oam σ.clock σ.seen σ.rows σ.now fun (x : Nat) => (0 : Int)).seen (Pp.mk (upd σ.regs 0 v) σ.vram σ.oam σ.clock σ.seen σ.rows σ.now fun (x : Nat) => (0 : Int)).rows (fun (x : Nat) => (0 : Int)) (Pp.mk (upd σ.regs 0 v) σ.vram σ.oam σ.clock σ.seen σ.rows σ.now fun (x : Nat) => (0 : Int)).last))) 0 1 (by kernel_rfl) (by kernel_rfl) rfl (by kernel_rfl) (by omega) (@Go.Proofs.Ytkfclamiendamaa.z_now ((Pp.mk (upd σ.regs 0 v) σ.vram σ.oam σ.clock σ.seen σ.rows σ.now fun (x : Nat) => (0 : Int)))) ?_)
    refine Xg.ops_nil ?_
    refine Xg.at_inBlock ?_
    refine Xg.at_end_ps (v := (tu)) [0] [row p (77 : TypeId) (ppc (Pp.mk (Pp.mk (upd σ.regs 0 v) σ.vram σ.oam σ.clock σ.seen σ.rows σ.now fun (x : Nat) => (0 : Int)).regs (Pp.mk (upd σ.regs 0 v) σ.vram σ.oam σ.clock σ.seen σ.rows σ.now fun (x : Nat) => (0 : Int)).vram (Pp.mk (upd σ.regs 0 v) σ.vram σ.oam σ.clock σ.seen σ.rows σ.now fun (x : Nat) => (0 : Int)).oam (Pp.mk (upd σ.regs 0 v) σ.vram σ.oam σ.clock σ.seen σ.rows σ.now fun (x : Nat) => (0 : Int)).clock (Pp.mk (upd σ.regs 0 v) σ.vram σ.oam σ.clock σ.seen σ.rows σ.now fun (x : Nat) => (0 : Int)).seen (Pp.mk (upd σ.regs 0 v) σ.vram σ.oam σ.clock σ.seen σ.rows σ.now fun (x : Nat) => (0 : Int)).rows (fun (x : Nat) => (0 : Int)) (Pp.mk (upd σ.regs 0 v) σ.vram σ.oam σ.clock σ.seen σ.rows σ.now fun (x : Nat) => (0 : Int)).last))] Go.Proofs.Try.func50 (fun _ => by kernel_rfl) (by kernel_rfl) (by kernel_rfl) ?_
    rotate_left
    refine Xg.ops_op (by kernel_rfl) (Xg.opx_pure ((Value.bool false)) rfl (fun _ => by kernel_rfl) ?_)
    refine Xg.ops_nil ?_
    refine Xg.at_false (t := false) (by kernel_rfl) rfl ?_
    refine Xg.at_skip ?_
    refine Xg.at_inBlock ?_
    refine Xg.at_end_ps (v := (tu)) [0] [PpR p (Pp.mk (upd σ.regs 0 v) σ.vram σ.oam σ.clock σ.seen σ.rows σ.now σ.last)] Go.Proofs.Try.func50 (fun _ => by kernel_rfl) (by kernel_rfl) (by kernel_rfl) ?_
    rotate_left
    refine Xg.ops_skip (by kernel_rfl) ?_
    refine Xg.ops_skip (by kernel_rfl) ?_
    refine Xg.ops_skip (by kernel_rfl) ?_
    refine Xg.ops_op (by kernel_rfl) (Xg.opx_pure ((Value.bool false)) rfl (fun _ => by kernel_rfl) ?_)
    refine Xg.ops_nil ?_
    refine Xg.at_false (t := false) (by kernel_rfl) rfl ?_
    refine Xg.at_skip ?_
    refine Xg.at_inBlock ?_
    refine Xg.at_end_ps (v := (tu)) [0] [PpR p (Pp.mk (upd σ.regs 0 v) σ.vram σ.oam σ.clock σ.seen σ.rows σ.now σ.last)] Go.Proofs.Try.func50 (fun _ => by kernel_rfl) (by kernel_rfl) (by kernel_rfl) ?_
    rotate_left
    refine Xg.ops_op (by kernel_rfl) (Xg.opx_eq (v := ((Value.bool !hasB (σ.regs 0) (7 : Nat) == false))) (.bool (hasB (σ.regs 0) (7 : Nat))) rfl (fun _ => by kernel_rfl) (by generalize ((hasB (σ.regs 0) (7 : Nat)) : Bool) = bb; cases bb <;> rfl) ?_)
    refine Xg.ops_nil ?_
    refine Xg.at_cond (t := (hasB (σ.regs 0) (7 : Nat))) (by kernel_rfl) (fun xh6 => ?_) (fun xh6 => ?_)
    refine Xg.at_region ?_
    refine Xg.ops_op (by kernel_rfl) (Xg.opx_pure ((pv p 0)) rfl (fun _ => by kernel_rfl) ?_)
    refine Xg.ops_op (by kernel_rfl) (Xg.opx_call1' [0] [PpR p (Pp.mk (upd (upd σ.regs 0 v) (4 : Nat) (0 : Int)) σ.vram σ.oam (0 : Int) false (0 : Int) σ.now σ.last)] (fun _ => by kernel_rfl) (@Go.Proofs.Ytkfclamiendamaa.begin_d (p) ((Pp.mk (upd σ.regs 0 v) σ.vram σ.oam σ.clock σ.seen σ.rows σ.now σ.last))) (by kernel_rfl) (by kernel_rfl) (by kernel_rfl) ?_)
    refine Xg.ops_nil ?_
    refine Xg.at_seq ?_
    refine Xg.at_region ?_
    refine Xg.ops_op (by kernel_rfl) (Xg.opx_pure ((Value.bool (hasB (σ.regs 0) (7 : Nat)))) rfl (fun _ => by kernel_rfl) ?_)
    refine Xg.ops_op (by kernel_rfl) (Xg.opx_pure ((Value.bool (hasB (σ.regs 0) (7 : Nat)))) rfl (fun _ => by kernel_rfl) ?_)
    refine Xg.ops_flag (j := 41) (c := (hasB (σ.regs 0) (7 : Nat))) (by kernel_rfl) (fun xh7 => ?_) (fun xh7 => ?_)
    refine Xg.ops_op (by kernel_rfl) (Xg.opx_pure ((pv p 0)) rfl (fun _ => by kernel_rfl) ?_)
    refine Xg.ops_op (by kernel_rfl) (Xg.opx_call1' [0] [PpR p (Pp.mk (upd (upd σ.regs 0 v) (4 : Nat) (0 : Int)) σ.vram σ.oam (0 : Int) false (0 : Int) σ.now σ.last)] (fun _ => by kernel_rfl) (@Go.Proofs.Ytkfclamiendamaa.on_d (p) ((Pp.mk (upd (upd σ.regs 0 v) (4 : Nat) (0 : Int)) σ.vram σ.oam (0 : Int) false (0 : Int) σ.now σ.last)) (by assumption)) (by kernel_rfl) (by kernel_rfl) (by kernel_rfl) ?_)
    refine Xg.ops_op (by kernel_rfl) (Xg.opx_pure (.bool (!(hasB v (7 : Nat)))) rfl (fun _ => by kernel_rfl) ?_)
    refine Xg.ops_flag (j := 44) (c := (!hasB v (7 : Nat))) (by kernel_rfl) (fun xh8 => ?_) (fun xh8 => ?_)
    replace xh8 : (hasB v (7 : Nat)) = false := by simpa using xh8
    rotate_left
    replace xh8 : (hasB v (7 : Nat)) = true := by simpa using xh8
    rotate_right
    refine Xg.ops_op (by kernel_rfl) (Xg.opx_pure ((Value.bool true)) rfl (fun _ => by kernel_rfl) ?_)
    refine Xg.ops_nil ?_
    refine Xg.at_true (t := true) (by kernel_rfl) rfl ?_
    refine Xg.at_seq ?_
    refine Xg.at_region ?_
    refine Xg.ops_op (by kernel_rfl) (Xg.opx_pure ((pv p 0)) rfl (fun _ => by kernel_rfl) ?_)
    refine Xg.ops_op (by kernel_rfl) (Xg.opx_pure ((pv p 0)) rfl (fun _ => by kernel_rfl) ?_)
    refine Xg.ops_op (by kernel_rfl) (Xg.opx_pure ((pv p 31407)) rfl (fun _ => by kernel_rfl) ?_)
    refine Xg.ops_op (by kernel_rfl) (Xg.opx_pure (Value.slice (some (Addr.mk p (31407 : Nat) none)) (23040 : Nat) (23040 : Nat)) rfl (fun _ => by kernel_rfl) ?_)
    refine Xg.ops_op (by kernel_rfl) (Xg.opx_clear_c (elem := 5) (kd := .u8) (off := ((31407 : Nat))) (n := ((23040 : Nat))) (c := ((23040 : Nat))) (cs' := (ppc (Pp.mk (upd (upd σ.regs 0 v) (4 : Nat) (0 : Int)) σ.vram σ.oam (0 : Int) false (0 : Int) σ.now fun (x : Nat) => (0 : Int)))) 0 1 (by kernel_rfl) (by kernel_rfl) rfl (by kernel_rfl) (by omega) (@Go.Proofs.Ytkfclamiendamaa.z_last ((Pp.mk (upd (upd σ.regs 0 v) (4 : Nat) (0 : Int)) σ.vram σ.oam (0 : Int) false (0 : Int) σ.now σ.last))) ?_)
    refine Xg.ops_nil ?_
    refine Xg.at_region ?_
    refine Xg.ops_op (by kernel_rfl) (Xg.opx_pure ((pv p 0)) rfl (fun _ => by kernel_rfl) ?_)
    refine Xg.ops_op (by kernel_rfl) (Xg.opx_pure ((pv p 0)) rfl (fun _ => by kernel_rfl) ?_)
    refine Xg.ops_op (by kernel_rfl) (Xg.opx_pure ((pv p 8367)) rfl (fun _ => by kernel_rfl) ?_)
    refine Xg.ops_op (by kernel_rfl) (Xg.opx_pure (Value.slice (some (Addr.mk p (8367 : Nat) none)) (23040 : Nat) (23040 : Nat)) rfl (fun _ => by kernel_rfl) ?_)
    refine Xg.ops_op (by kernel_rfl) (Xg.opx_clear_c (elem := 5) (kd := .u8) (off := ((8367 : Nat))) (n := ((23040 : Nat))) (c := ((23040 : Nat))) (cs' := (ppc (Pp.mk (Pp.mk (upd (upd σ.regs 0 v) (4 : Nat) (0 : Int)) σ.vram σ.oam (0 : Int) false (0 : Int) σ.now fun (x : Nat) => (0 : Int)).regs (Pp.mk (upd (upd σ.regs 0 v) (4 : Nat) (0 : Int)) σ.vram σ.oam (0 : Int) false (0 : Int) σ.now fun (x : Nat) => (0 : Int)).vram (Pp.mk (upd (upd σ.regs 0 v) (4 : Nat) (0 : Int)) σ.vram σ.oam (0 : Int) false (0 : Int) σ.now fun (x : Nat) => (0 : Int)).oam (Pp.mk (upd (upd σ.regs 0 v) (4 : Nat) (0 : Int)) σ.vram σ.oam (0 : Int) false (0 : Int) σ.now fun (x : Nat) => (0 : Int)).clock (Pp.mk (upd (upd σ.regs 0 v) (4 : Nat) (0 : Int)) σ.vram σ.oam (0 : Int) false (0 : Int) σ.now fun (x : Nat) => (0 : Int)).seen (Pp.mk (upd (upd σ.regs 0 v) (4 : Nat) (0 : Int)) σ.vram σ.oam (0 : Int) false (0 : Int) σ.now fun (x : Nat) => (0 : Int)).rows (fun (x : Nat) => (0 : Int)) (Pp.mk (upd (upd σ.regs 0 v) (4 : Nat) (0 : Int)) σ.vram σ.oam (0 : Int) false (0 : Int) σ.now fun (x : Nat) => (0 : Int)).last))) 0 1 (by kernel_rfl) (by kernel_rfl) rfl (by kernel_rfl) (by omega) (@Go.Proofs.Ytkfclamiendamaa.z_now ((Pp.mk (upd (upd σ.regs 0 v) (4 : Nat) (0 : Int)) σ.vram σ.oam (0 : Int) false (0 : Int) σ.now fun (x : Nat) => (0 : Int)))) ?_)
    refine Xg.ops_nil ?_
    refine Xg.at_inBlock ?_
    refine Xg.at_end_ps (v := (tu)) [0] [row p (77 : TypeId) (ppc (Pp.mk (Pp.mk (upd (upd σ.regs 0 v) (4 : Nat) (0 : Int)) σ.vram σ.oam (0 : Int) false (0 : Int) σ.now fun (x : Nat) => (0 : Int)).regs (Pp.mk (upd (upd σ.regs 0 v) (4 : Nat) (0 : Int)) σ.vram σ.oam (0 : Int) false (0 : Int) σ.now fun (x : Nat) => (0 : Int)).vram (Pp.mk (upd (upd σ.regs 0 v) (4 : Nat) (0 : Int)) σ.vram σ.oam (0 : Int) false (0 : Int) σ.now fun (x : Nat) => (0 : Int)).oam (Pp.mk (upd (upd σ.regs 0 v) (4 : Nat) (0 : Int)) σ.vram σ.oam (0 : Int) false (0 : Int) σ.now fun (x : Nat) => (0 : Int)).clock (Pp.mk (upd (upd σ.regs 0 v) (4 : Nat) (0 : Int)) σ.vram σ.oam (0 : Int) false (0 : Int) σ.now fun (x : Nat) => (0 : Int)).seen (Pp.mk (upd (upd σ.regs 0 v) (4 : Nat) (0 : Int)) σ.vram σ.oam (0 : Int) false (0 : Int) σ.now fun (x : Nat) => (0 : Int)).rows (fun (x : Nat) => (0 : Int)) (Pp.mk (upd (upd σ.regs 0 v) (4 : Nat) (0 : Int)) σ.vram σ.oam (0 : Int) false (0 : Int) σ.now fun (x : Nat) => (0 : Int)).last))] Go.Proofs.Try.func50 (fun _ => by kernel_rfl) (by kernel_rfl) (by kernel_rfl) ?_
    rotate_left
    refine Xg.ops_op (by kernel_rfl) (Xg.opx_pure ((Value.bool false)) rfl (fun _ => by kernel_rfl) ?_)
    refine Xg.ops_nil ?_
    refine Xg.at_false (t := false) (by kernel_rfl) rfl ?_
    refine Xg.at_skip ?_
    refine Xg.at_inBlock ?_
    refine Xg.at_end_ps (v := (tu)) [0] [PpR p (Pp.mk (upd (upd σ.regs 0 v) (4 : Nat) (0 : Int)) σ.vram σ.oam (0 : Int) false (0 : Int) σ.now σ.last)] Go.Proofs.Try.func50 (fun _ => by kernel_rfl) (by kernel_rfl) (by kernel_rfl) ?_
    rotate_left
    refine Xg.ops_skip (by kernel_rfl) ?_
    refine Xg.ops_skip (by kernel_rfl) ?_
    refine Xg.ops_skip (by kernel_rfl) ?_
    refine Xg.ops_op (by kernel_rfl) (Xg.opx_pure ((Value.bool false)) rfl (fun _ => by kernel_rfl) ?_)
    refine Xg.ops_nil ?_
    refine Xg.at_false (t := false) (by kernel_rfl) rfl ?_
    refine Xg.at_skip ?_
    refine Xg.at_inBlock ?_
    refine Xg.at_end_ps (v := (tu)) [0] [PpR p (Pp.mk (upd (upd σ.regs 0 v) (4 : Nat) (0 : Int)) σ.vram σ.oam (0 : Int) false (0 : Int) σ.now σ.last)] Go.Proofs.Try.func50 (fun _ => by kernel_rfl) (by kernel_rfl) (by kernel_rfl) ?_
    rotate_left
    refine Xg.at_skip ?_
    refine Xg.at_seq ?_
    refine Xg.at_region ?_
    refine Xg.ops_op (by kernel_rfl) (Xg.opx_pure ((Value.bool (hasB (σ.regs 0) (7 : Nat)))) rfl (fun _ => by kernel_rfl) ?_)
    refine Xg.ops_op (by kernel_rfl) (Xg.opx_pure ((Value.bool (hasB (σ.regs 0) (7 : Nat)))) rfl (fun _ => by kernel_rfl) ?_)
    refine Xg.ops_flag (j := 41) (c := (hasB (σ.regs 0) (7 : Nat))) (by kernel_rfl) (fun xh7 => ?_) (fun xh7 => ?_)
    refine Xg.ops_op (by kernel_rfl) (Xg.opx_pure ((pv p 0)) rfl (fun _ => by kernel_rfl) ?_)
    refine Xg.ops_op (by kernel_rfl) (Xg.opx_call1' [0] [PpR p (Pp.mk (upd σ.regs 0 v) σ.vram σ.oam σ.clock σ.seen σ.rows σ.now σ.last)] (fun _ => by kernel_rfl) (@Go.Proofs.Ytkfclamiendamaa.on_d (p) ((Pp.mk (upd σ.regs 0 v) σ.vram σ.oam σ.clock σ.seen σ.rows σ.now σ.last)) (by assumption)) (by kernel_rfl) (by kernel_rfl) (by kernel_rfl) ?_)
    refine Xg.ops_op (by kernel_rfl) (Xg.opx_pure (.bool (!(hasB v (7 : Nat)))) rfl (fun _ => by kernel_rfl) ?_)
    refine Xg.ops_flag (j := 44) (c := (!hasB v (7 : Nat))) (by kernel_rfl) (fun xh8 => ?_) (fun xh8 => ?_)
    replace xh8 : (hasB v (7 : Nat)) = false := by simpa using xh8
    rotate_left
    replace xh8 : (hasB v (7 : Nat)) = true := by simpa using xh8
    rotate_right
    refine Xg.ops_op (by kernel_rfl) (Xg.opx_pure ((Value.bool true)) rfl (fun _ => by kernel_rfl) ?_)
    refine Xg.ops_nil ?_
    refine Xg.at_true (t := true) (by kernel_rfl) rfl ?_
    refine Xg.at_seq ?_
    refine Xg.at_region ?_
    refine Xg.ops_op (by kernel_rfl) (Xg.opx_pure ((pv p 0)) rfl (fun _ => by kernel_rfl) ?_)
    refine Xg.ops_op (by kernel_rfl) (Xg.opx_pure ((pv p 0)) rfl (fun _ => by kernel_rfl) ?_)
    refine Xg.ops_op (by kernel_rfl) (Xg.opx_pure ((pv p 31407)) rfl (fun _ => by kernel_rfl) ?_)
    refine Xg.ops_op (by kernel_rfl) (Xg.opx_pure (Value.slice (some (Addr.mk p (31407 : Nat) none)) (23040 : Nat) (23040 : Nat)) rfl (fun _ => by kernel_rfl) ?_)
    refine Xg.ops_op (by kernel_rfl) (Xg.opx_clear_c (elem := 5) (kd := .u8) (off := ((31407 : Nat))) (n := ((23040 : Nat))) (c := ((23040 : Nat))) (cs' := (ppc (Pp.mk (upd σ.regs 0 v) σ.vram σ.oam σ.clock σ.seen σ.rows σ.now fun (x : Nat) => (0 : Int)))) 0 1 (by kernel_rfl) (by kernel_rfl) rfl (by kernel_rfl) (by omega) (@Go.Proofs.Ytkfclamiendamaa.z_last ((Pp.mk (upd σ.regs 0 v) σ.vram σ.oam σ.clock σ.seen σ.rows σ.now σ.last))) ?_)
    refine Xg.ops_nil ?_
    refine Xg.at_region ?_
    refine Xg.ops_op (by kernel_rfl) (Xg.opx_pure ((pv p 0)) rfl (fun _ => by kernel_rfl) ?_)
    refine Xg.ops_op (by kernel_rfl) (Xg.opx_pure ((pv p 0)) rfl (fun _ => by kernel_rfl) ?_)
    refine Xg.ops_op (by kernel_rfl) (Xg.opx_pure ((pv p 8367)) rfl (fun _ => by kernel_rfl) ?_)
    refine Xg.ops_op (by kernel_rfl) (Xg.opx_pure (Value.slice (some (Addr.mk p (8367 : Nat) none)) (23040 : Nat) (23040 : Nat)) rfl (fun _ => by kernel_rfl) ?_)
    refine Xg.ops_op (by kernel_rfl) (Xg.opx_clear_c (elem := 5) (kd := .u8) (off := ((8367 : Nat))) (n := ((23040 : Nat))) (c := ((23040 : Nat))) (cs' := (ppc (Pp.mk (Pp.mk (upd σ.regs 0 v) σ.vram σ.oam σ.clock σ.seen σ.rows σ.now fun (x : Nat) => (0 : Int)).regs (Pp.mk (upd σ.regs 0 v) σ.vram σ.oam σ.clock σ.seen σ.rows σ.now fun (x : Nat) => (0 : Int)).vram (Pp.mk (upd σ.regs 0 v) σ.vram σ.oam σ.clock σ.seen σ.rows σ.now fun (x : Nat) => (0 : Int)).oam (Pp.mk (upd σ.regs 0 v) σ.vram σ.oam σ.clock σ.seen σ.rows σ.now fun (x : Nat) => (0 : Int)).clock (Pp.mk (upd σ.regs 0 v) σ.vram σ.oam σ.clock σ.seen σ.rows σ.now fun (x : Nat) => (0 : Int)).seen (Pp.mk (upd σ.regs 0 v) σ.vram σ.oam σ.clock σ.seen σ.rows σ.now fun (x : Nat) => (0 : Int)).rows (fun (x : Nat) => (0 : Int)) (Pp.mk (upd σ.regs 0 v) σ.vram σ.oam σ.clock σ.seen σ.rows σ.now fun (x : Nat) => (0 : Int)).last))) 0 1 (by kernel_rfl) (by kernel_rfl) rfl (by kernel_rfl) (by omega) (@Go.Proofs.Ytkfclamiendamaa.z_now ((Pp.mk (upd σ.regs 0 v) σ.vram σ.oam σ.clock σ.seen σ.rows σ.now fun (x : Nat) => (0 : Int)))) ?_)
    refine Xg.ops_nil ?_
    refine Xg.at_inBlock ?_
    refine Xg.at_end_ps (v := (tu)) [0] [row p (77 : TypeId) (ppc (Pp.mk (Pp.mk (upd σ.regs 0 v) σ.vram σ.oam σ.clock σ.seen σ.rows σ.now fun (x : Nat) => (0 : Int)).regs (Pp.mk (upd σ.regs 0 v) σ.vram σ.oam σ.clock σ.seen σ.rows σ.now fun (x : Nat) => (0 : Int)).vram (Pp.mk (upd σ.regs 0 v) σ.vram σ.oam σ.clock σ.seen σ.rows σ.now fun (x : Nat) => (0 : Int)).oam (Pp.mk (upd σ.regs 0 v) σ.vram σ.oam σ.clock σ.seen σ.rows σ.now fun (x : Nat) => (0 : Int)).clock (Pp.mk (upd σ.regs 0 v) σ.vram σ.oam σ.clock σ.seen σ.rows σ.now fun (x : Nat) => (0 : Int)).seen (Pp.mk (upd σ.regs 0 v) σ.vram σ.oam σ.clock σ.seen σ.rows σ.now fun (x : Nat) => (0 : Int)).rows (fun (x : Nat) => (0 : Int)) (Pp.mk (upd σ.regs 0 v) σ.vram σ.oam σ.clock σ.seen σ.rows σ.now fun (x : Nat) => (0 : Int)).last))] Go.Proofs.Try.func50 (fun _ => by kernel_rfl) (by kernel_rfl) (by kernel_rfl) ?_
    rotate_left
    refine Xg.ops_op (by kernel_rfl) (Xg.opx_pure ((Value.bool false)) rfl (fun _ => by kernel_rfl) ?_)
    refine Xg.ops_nil ?_
    refine Xg.at_false (t := false) (by kernel_rfl) rfl ?_
    refine Xg.at_skip ?_
    refine Xg.at_inBlock ?_
    refine Xg.at_end_ps (v := (tu)) [0] [PpR p (Pp.mk (upd σ.regs 0 v) σ.vram σ.oam σ.clock σ.seen σ.rows σ.now σ.last)] Go.Proofs.Try.func50 (fun _ => by kernel_rfl) (by kernel_rfl) (by kernel_rfl) ?_
    rotate_left
    refine Xg.ops_skip (by kernel_rfl) ?_
    refine Xg.ops_skip (by kernel_rfl) ?_
    refine Xg.ops_skip (by kernel_rfl) ?_
    refine Xg.ops_op (by kernel_rfl) (Xg.opx_pure ((Value.bool false)) rfl (fun _ => by kernel_rfl) ?_)
    refine Xg.ops_nil ?_
    refine Xg.at_false (t := false) (by kernel_rfl) rfl ?_
    refine Xg.at_skip ?_
    refine Xg.at_inBlock ?_
    refine Xg.at_end_ps (v := (tu)) [0] [PpR p (Pp.mk (upd σ.regs 0 v) σ.vram σ.oam σ.clock σ.seen σ.rows σ.now σ.last)] Go.Proofs.Try.func50 (fun _ => by kernel_rfl) (by kernel_rfl) (by kernel_rfl) ?_
    rotate_left
    refine Xg.at_region ?_
    refine Xg.ops_op (by kernel_rfl) (Xg.opx_pure ((pv p 0)) rfl (fun _ => by kernel_rfl) ?_)
    refine Xg.ops_op (by kernel_rfl) (Xg.opx_pure ((iv r)) rfl (fun _ => by kernel_rfl) ?_)
    refine Xg.ops_op (by kernel_rfl) (Xg.opx_pure ((iv v)) rfl (fun _ => by kernel_rfl) ?_)
    refine Xg.ops_op (by kernel_rfl) (Xg.opx_pure ((pv p 0)) rfl (fun _ => by kernel_rfl) ?_)
    refine Xg.ops_op (by kernel_rfl) (Xg.opx_pure ((pv p 0)) rfl (fun _ => by kernel_rfl) ?_)
    refine Xg.ops_op (by kernel_rfl) (Xg.opx_run (.pointer (some (Addr.mk p r.toNat none))) rfl (Xg.run_ix_array' (elem := 3) (len := 12) (b := p) (off := ((0 : Nat))) (kd := .i64) (e := r) 1 r.toNat r.toNat (by kernel_rfl) (by kernel_rfl) (by kernel_rfl) (by kernel_rfl) (by omega) (by omega) (by omega)) ?_)
    refine Xg.ops_op (by kernel_rfl) (Xg.opx_store_c (off := r.toNat) (cs' := (ppc (Pp.mk (upd σ.regs r.toNat v) σ.vram σ.oam σ.clock σ.seen σ.rows σ.now σ.last))) 0 (iv v) (by kernel_rfl) rfl (by kernel_rfl) (by kernel_rfl) (by kernel_rfl) (@Go.Proofs.Ytkfclamiendamaa.s_regs (σ) (r.toNat) (v) (by omega)) ?_)
    refine Xg.ops_nil ?_
    refine Xg.at_inBlock ?_
    refine Xg.at_end_ps (v := (tu)) [0] [row p (77 : TypeId) (ppc (Pp.mk (upd σ.regs r.toNat v) σ.vram σ.oam σ.clock σ.seen σ.rows σ.now σ.last))] Go.Proofs.Try.func50 (fun _ => by kernel_rfl) (by kernel_rfl) (by kernel_rfl) ?_)
  all_goals
    refine ⟨rfl, congrArg (fun x => [PpR p x]) ?_⟩
    unfold setP begP
    (repeat' split) <;> first | rfl | (exfalso; omega) | (exfalso; simp_all; done) | simp_all

/-- What a write does. -/
def writeP (σ : Pp) (a d : Int) : Pp :=
  if 32768 ≤ a ∧ a < 40960 then (if modeI σ = 3 then σ else { σ with vram := upd σ.vram (a - 32768).toNat (d % 256) })
  else if 65024 ≤ a ∧ a < 65184 then (if modeI σ ≥ 2 then σ else { σ with oam := upd σ.oam (a - 65024).toNat (d % 256) })
  else if a < 65344 ∨ a ≥ 65356 then σ
  else setP σ (a - 65344) (d % 256)

set_option maxHeartbeats 0 in
theorem write_d (p : Nat) (σ : Pp) (hσ : σ.Wf) (a d : Int) (ha : -9223372036854775808 ≤ a ∧ a ≤ 9223372036854775807) : Does Try.prog 22 [pt p, .int .i64 a, .int .i64 d] [PpR p σ] (Ret (.tuple #[]) [PpR p (writeP σ a d)]) := by
  have h0 := hσ.regs 0
  have hd : band .i64 d 255 = d % 256 := band_255 d
  have hm : 0 ≤ d % 256 ∧ d % 256 ≤ 255 := by omega
  (focus
    refine Xg.spec_of Go.Proofs.Try.func22 rfl Go.Proofs.Try.ntmps22 fun g F => ?_)
  (focus
    refine Xg.at_seq ?_
    refine Xg.at_region ?_
    refine Xg.ops_op (by kernel_rfl) (Xg.opx_pure ((iv d)) rfl (fun _ => by kernel_rfl) ?_)
    refine Xg.ops_op (by kernel_rfl) (Xg.opx_pure (.int .i64 (Xg.band .i64 (d) (((255 : Int))))) rfl (fun _ => by kernel_rfl) ?_)
    refine Xg.ops_op (by kernel_rfl) (Xg.opx_pure ((iv (band IntKind.i64 d (255 : Int)))) rfl (fun _ => by kernel_rfl) ?_)
    refine Xg.ops_nil ?_
    refine Xg.at_seq ?_
    refine Xg.at_region ?_
    refine Xg.ops_op (by kernel_rfl) (Xg.opx_pure ((pv p 0)) rfl (fun _ => by kernel_rfl) ?_)
    refine Xg.ops_op (by kernel_rfl) (Xg.opx_callE' [0] (fun xx1 => [PpR p σ]) (fun _ => by kernel_rfl) (@Go.Proofs.Ytkfclamiendamaa.mode_e (p) (σ) (by omega)) (by kernel_rfl) (by kernel_rfl) (by kernel_rfl) fun xx1 xh1 => ?_)
    try dsimp only at xh1
    obtain ⟨xh1_0, xh1_1, xh1_2⟩ := xh1
    refine Xg.ops_op (by kernel_rfl) (Xg.opx_pure ((iv xx1)) rfl (fun _ => by kernel_rfl) ?_)
    refine Xg.ops_nil ?_
    refine Xg.at_block ?_
    refine Xg.at_seq ?_
    refine Xg.at_region ?_
    refine Xg.ops_op (by kernel_rfl) (Xg.opx_pure ((iv a)) rfl (fun _ => by kernel_rfl) ?_)
    refine Xg.ops_op (by kernel_rfl) (Xg.opx_pure (.bool (decide ((a : Int) ≥ ((32768 : Int))))) rfl (fun _ => by kernel_rfl) ?_)
    refine Xg.ops_op (by kernel_rfl) (Xg.opx_pure ((Value.bool (decide (a ≥ (32768 : Int))))) rfl (fun _ => by kernel_rfl) ?_)
    refine Xg.ops_flag (j := 19) (c := (decide (a ≥ (32768 : Int)))) (by kernel_rfl) (fun xh2 => ?_) (fun xh2 => ?_)
    replace xh2 : (a ≥ (32768 : Int)) := of_decide_eq_true xh2
    rotate_left
    replace xh2 : ¬ ((a ≥ (32768 : Int))) := of_decide_eq_false xh2
    rotate_right
    refine Xg.ops_op (by kernel_rfl) (Xg.opx_pure ((iv a)) rfl (fun _ => by kernel_rfl) ?_)
    refine Xg.ops_op (by kernel_rfl) (Xg.opx_pure (.bool (decide ((a : Int) < ((40960 : Int))))) rfl (fun _ => by kernel_rfl) ?_)
    refine Xg.ops_flag (j := 21) (c := (decide (a < (40960 : Int)))) (by kernel_rfl) (fun xh3 => ?_) (fun xh3 => ?_)
    replace xh3 : (a < (40960 : Int)) := of_decide_eq_true xh3
    rotate_left
    replace xh3 : ¬ ((a < (40960 : Int))) := of_decide_eq_false xh3
    rotate_right
    refine Xg.ops_op (by kernel_rfl) (Xg.opx_pure ((Value.bool true)) rfl (fun _ => by kernel_rfl) ?_)
    refine Xg.ops_op (by kernel_rfl) (Xg.opx_pure ((Value.bool true)) rfl (fun _ => by kernel_rfl) ?_)
    refine Xg.ops_nil ?_
    refine Xg.at_true (t := true) (by kernel_rfl) rfl ?_
    refine Xg.at_seq ?_
    refine Xg.at_region ?_
    refine Xg.ops_op (by kernel_rfl) (Xg.opx_pure ((iv xx1)) rfl (fun _ => by kernel_rfl) ?_)
    refine Xg.ops_op (by kernel_rfl) (Xg.opx_pure (.bool (!decide ((xx1 : Int) = ((3 : Int))))) rfl (fun _ => by kernel_rfl) ?_)
    refine Xg.ops_nil ?_
    refine Xg.at_ndec (p := (xx1 = (3 : Int))) (by kernel_rfl) (fun xh4 => ?_) (fun xh4 => ?_)
    refine Xg.at_region ?_
    refine Xg.ops_op (by kernel_rfl) (Xg.opx_pure ((pv p 0)) rfl (fun _ => by kernel_rfl) ?_)
    refine Xg.ops_op (by kernel_rfl) (Xg.opx_pure ((iv a)) rfl (fun _ => by kernel_rfl) ?_)
    refine Xg.ops_op (by kernel_rfl) (Xg.opx_int .i64 (IntKind.wrap .i64 ((a - (32768 : Int)))) rfl (fun _ => by kernel_rfl) (Xg.wrap_i64_in (by omega)) ?_)
    refine Xg.ops_op (by kernel_rfl) (Xg.opx_pure ((iv (band IntKind.i64 d (255 : Int)))) rfl (fun _ => by kernel_rfl) ?_)
    refine Xg.ops_op (by kernel_rfl) (Xg.opx_int .u8 (IntKind.wrap .u8 ((band IntKind.i64 d (255 : Int)))) rfl (fun _ => by kernel_rfl) (Xg.wrap_u8_in (by omega)) ?_)
    refine Xg.ops_op (by kernel_rfl) (Xg.opx_pure ((pv p 0)) rfl (fun _ => by kernel_rfl) ?_)
    refine Xg.ops_op (by kernel_rfl) (Xg.opx_pure ((pv p 12)) rfl (fun _ => by kernel_rfl) ?_)
    refine Xg.ops_op (by kernel_rfl) (Xg.opx_run (.pointer (some (Addr.mk p ((12 : Nat) + (a - (32768 : Int)).toNat) none))) rfl (Xg.run_ix_array' (elem := 5) (len := 8192) (b := p) (off := ((12 : Nat))) (kd := .i64) (e := (a - (32768 : Int))) 1 ((a - (32768 : Int)).toNat) ((12 : Nat) + (a - (32768 : Int)).toNat) (by kernel_rfl) (by kernel_rfl) (by kernel_rfl) (by kernel_rfl) (by omega) (by omega) (by omega)) ?_)
    refine Xg.ops_op (by kernel_rfl) (Xg.opx_store_c (off := ((12 : Nat) + (a - (32768 : Int)).toNat)) (cs' := (ppc (Pp.mk σ.regs (upd σ.vram (a - (32768 : Int)).toNat (band IntKind.i64 d (255 : Int))) σ.oam σ.clock σ.seen σ.rows σ.now σ.last))) 0 (uv (band IntKind.i64 d (255 : Int))) (by kernel_rfl) rfl (by kernel_rfl) (by kernel_rfl) (by kernel_rfl) (@Go.Proofs.Ytkfclamiendamaa.s_vram (σ) (((a - (32768 : Int)).toNat)) ((band IntKind.i64 d (255 : Int))) (by omega)) ?_)
    refine Xg.ops_nil ?_
    refine Xg.at_inBlock ?_
    refine Xg.at_end_ps (v := (tu)) [0] [row p (77 : TypeId) (ppc (Pp.mk σ.regs (upd σ.vram (a - (32768 : Int)).toNat (band IntKind.i64 d (255 : Int))) σ.oam σ.clock σ.seen σ.rows σ.now σ.last))] Go.Proofs.Try.func22 (fun _ => by kernel_rfl) (by kernel_rfl) (by kernel_rfl) ?_
    rotate_left
    refine Xg.at_skip ?_
    refine Xg.at_inBlock ?_
    refine Xg.at_end_ps (v := (tu)) [0] [PpR p σ] Go.Proofs.Try.func22 (fun _ => by kernel_rfl) (by kernel_rfl) (by kernel_rfl) ?_
    rotate_left
    refine Xg.ops_op (by kernel_rfl) (Xg.opx_pure ((Value.bool false)) rfl (fun _ => by kernel_rfl) ?_)
    refine Xg.ops_op (by kernel_rfl) (Xg.opx_pure ((Value.bool false)) rfl (fun _ => by kernel_rfl) ?_)
    refine Xg.ops_nil ?_
    refine Xg.at_false (t := false) (by kernel_rfl) rfl ?_
    refine Xg.at_seq ?_
    refine Xg.at_region ?_
    refine Xg.ops_op (by kernel_rfl) (Xg.opx_pure ((iv a)) rfl (fun _ => by kernel_rfl) ?_)
    refine Xg.ops_op (by kernel_rfl) (Xg.opx_pure (.bool (decide ((a : Int) ≥ ((65024 : Int))))) rfl (fun _ => by kernel_rfl) ?_)
    refine Xg.ops_op (by kernel_rfl) (Xg.opx_pure ((Value.bool (decide (a ≥ (65024 : Int))))) rfl (fun _ => by kernel_rfl) ?_)
    refine Xg.ops_flag (j := 36) (c := (decide (a ≥ (65024 : Int)))) (by kernel_rfl) (fun xh4 => ?_) (fun xh4 => ?_)
    replace xh4 : (a ≥ (65024 : Int)) := of_decide_eq_true xh4
    rotate_left
    replace xh4 : ¬ ((a ≥ (65024 : Int))) := of_decide_eq_false xh4
    rotate_right
    refine Xg.ops_op (by kernel_rfl) (Xg.opx_pure ((iv a)) rfl (fun _ => by kernel_rfl) ?_)
    refine Xg.ops_op (by kernel_rfl) (Xg.opx_pure (.bool (decide ((a : Int) < ((65184 : Int))))) rfl (fun _ => by kernel_rfl) ?_)
    refine Xg.ops_flag (j := 38) (c := (decide (a < (65184 : Int)))) (by kernel_rfl) (fun xh5 => ?_) (fun xh5 => ?_)
    replace xh5 : (a < (65184 : Int)) := of_decide_eq_true xh5
    rotate_left
    replace xh5 : ¬ ((a < (65184 : Int))) := of_decide_eq_false xh5
    rotate_right
    refine Xg.ops_op (by kernel_rfl) (Xg.opx_pure ((Value.bool true)) rfl (fun _ => by kernel_rfl) ?_)
    refine Xg.ops_op (by kernel_rfl) (Xg.opx_pure ((Value.bool true)) rfl (fun _ => by kernel_rfl) ?_)
    refine Xg.ops_nil ?_
    refine Xg.at_true (t := true) (by kernel_rfl) rfl ?_
    refine Xg.at_seq ?_
    refine Xg.at_region ?_
    refine Xg.ops_op (by kernel_rfl) (Xg.opx_pure ((iv xx1)) rfl (fun _ => by kernel_rfl) ?_)
    refine Xg.ops_op (by kernel_rfl) (Xg.opx_pure (.bool (decide ((xx1 : Int) < ((2 : Int))))) rfl (fun _ => by kernel_rfl) ?_)
    refine Xg.ops_nil ?_
    refine Xg.at_dec (p := (xx1 < (2 : Int))) (by kernel_rfl) (fun xh6 => ?_) (fun xh6 => ?_)
    refine Xg.at_region ?_
    refine Xg.ops_op (by kernel_rfl) (Xg.opx_pure ((pv p 0)) rfl (fun _ => by kernel_rfl) ?_)
    refine Xg.ops_op (by kernel_rfl) (Xg.opx_pure ((iv a)) rfl (fun _ => by kernel_rfl) ?_)
    refine Xg.ops_op (by kernel_rfl) (Xg.opx_int .i64 (IntKind.wrap .i64 ((a - (65024 : Int)))) rfl (fun _ => by kernel_rfl) (Xg.wrap_i64_in (by omega)) ?_)
    refine Xg.ops_op (by kernel_rfl) (Xg.opx_pure ((iv (band IntKind.i64 d (255 : Int)))) rfl (fun _ => by kernel_rfl) ?_)
    refine Xg.ops_op (by kernel_rfl) (Xg.opx_int .u8 (IntKind.wrap .u8 ((band IntKind.i64 d (255 : Int)))) rfl (fun _ => by kernel_rfl) (Xg.wrap_u8_in (by omega)) ?_)
    refine Xg.ops_op (by kernel_rfl) (Xg.opx_pure ((pv p 0)) rfl (fun _ => by kernel_rfl) ?_)
    refine Xg.ops_op (by kernel_rfl) (Xg.opx_pure ((pv p 8204)) rfl (fun _ => by kernel_rfl) ?_)
    refine Xg.ops_op (by kernel_rfl) (Xg.opx_run (.pointer (some (Addr.mk p ((8204 : Nat) + (a - (65024 : Int)).toNat) none))) rfl (Xg.run_ix_array' (elem := 5) (len := 160) (b := p) (off := ((8204 : Nat))) (kd := .i64) (e := (a - (65024 : Int))) 1 ((a - (65024 : Int)).toNat) ((8204 : Nat) + (a - (65024 : Int)).toNat) (by kernel_rfl) (by kernel_rfl) (by kernel_rfl) (by kernel_rfl) (by omega) (by omega) (by omega)) ?_)
    refine Xg.ops_op (by kernel_rfl) (Xg.opx_store_c (off := ((8204 : Nat) + (a - (65024 : Int)).toNat)) (cs' := (ppc (Pp.mk σ.regs σ.vram (upd σ.oam (a - (65024 : Int)).toNat (band IntKind.i64 d (255 : Int))) σ.clock σ.seen σ.rows σ.now σ.last))) 0 (uv (band IntKind.i64 d (255 : Int))) (by kernel_rfl) rfl (by kernel_rfl) (by kernel_rfl) (by kernel_rfl) (@Go.Proofs.Ytkfclamiendamaa.s_oam (σ) (((a - (65024 : Int)).toNat)) ((band IntKind.i64 d (255 : Int))) (by omega)) ?_)
    refine Xg.ops_nil ?_
    refine Xg.at_inBlock ?_
    refine Xg.at_end_ps (v := (tu)) [0] [row p (77 : TypeId) (ppc (Pp.mk σ.regs σ.vram (upd σ.oam (a - (65024 : Int)).toNat (band IntKind.i64 d (255 : Int))) σ.clock σ.seen σ.rows σ.now σ.last))] Go.Proofs.Try.func22 (fun _ => by kernel_rfl) (by kernel_rfl) (by kernel_rfl) ?_
    rotate_left
    refine Xg.at_skip ?_
    refine Xg.at_inBlock ?_
    refine Xg.at_end_ps (v := (tu)) [0] [PpR p σ] Go.Proofs.Try.func22 (fun _ => by kernel_rfl) (by kernel_rfl) (by kernel_rfl) ?_
    rotate_left
    refine Xg.ops_op (by kernel_rfl) (Xg.opx_pure ((Value.bool false)) rfl (fun _ => by kernel_rfl) ?_)
    refine Xg.ops_op (by kernel_rfl) (Xg.opx_pure ((Value.bool false)) rfl (fun _ => by kernel_rfl) ?_)
    refine Xg.ops_nil ?_
    refine Xg.at_false (t := false) (by kernel_rfl) rfl ?_
    refine Xg.at_seq ?_
    refine Xg.at_region ?_
    refine Xg.ops_op (by kernel_rfl) (Xg.opx_pure ((iv a)) rfl (fun _ => by kernel_rfl) ?_)
    refine Xg.ops_op (by kernel_rfl) (Xg.opx_pure (.bool (decide ((a : Int) < ((65344 : Int))))) rfl (fun _ => by kernel_rfl) ?_)
    refine Xg.ops_op (by kernel_rfl) (Xg.opx_pure ((Value.bool (decide (a < (65344 : Int))))) rfl (fun _ => by kernel_rfl) ?_)
    refine Xg.ops_flag (j := 53) (c := (decide (a < (65344 : Int)))) (by kernel_rfl) (fun xh6 => ?_) (fun xh6 => ?_)
    replace xh6 : (a < (65344 : Int)) := of_decide_eq_true xh6
    rotate_left
    replace xh6 : ¬ ((a < (65344 : Int))) := of_decide_eq_false xh6
    rotate_right
    refine Xg.ops_skip (by kernel_rfl) ?_
    refine Xg.ops_skip (by kernel_rfl) ?_
    refine Xg.ops_op (by kernel_rfl) (Xg.opx_pure ((Value.bool true)) rfl (fun _ => by kernel_rfl) ?_)
    refine Xg.ops_op (by kernel_rfl) (Xg.opx_pure ((Value.bool true)) rfl (fun _ => by kernel_rfl) ?_)
    refine Xg.ops_nil ?_
    refine Xg.at_true (t := true) (by kernel_rfl) rfl ?_
    refine Xg.at_skip ?_
    refine Xg.at_inBlock ?_
    refine Xg.at_end_ps (v := (tu)) [0] [PpR p σ] Go.Proofs.Try.func22 (fun _ => by kernel_rfl) (by kernel_rfl) (by kernel_rfl) ?_
    rotate_left
    refine Xg.ops_op (by kernel_rfl) (Xg.opx_pure ((iv a)) rfl (fun _ => by kernel_rfl) ?_)
    refine Xg.ops_op (by kernel_rfl) (Xg.opx_pure (.bool (decide ((a : Int) ≥ ((65356 : Int))))) rfl (fun _ => by kernel_rfl) ?_)
    refine Xg.ops_flag (j := 55) (c := (decide (a ≥ (65356 : Int)))) (by kernel_rfl) (fun xh7 => ?_) (fun xh7 => ?_)
    replace xh7 : (a ≥ (65356 : Int)) := of_decide_eq_true xh7
    rotate_left
    replace xh7 : ¬ ((a ≥ (65356 : Int))) := of_decide_eq_false xh7
    rotate_right
    refine Xg.ops_op (by kernel_rfl) (Xg.opx_pure ((Value.bool true)) rfl (fun _ => by kernel_rfl) ?_)
    refine Xg.ops_op (by kernel_rfl) (Xg.opx_pure ((Value.bool true)) rfl (fun _ => by kernel_rfl) ?_)
    refine Xg.ops_nil ?_
    refine Xg.at_true (t := true) (by kernel_rfl) rfl ?_
    refine Xg.at_skip ?_
    refine Xg.at_inBlock ?_
    refine Xg.at_end_ps (v := (tu)) [0] [PpR p σ] Go.Proofs.Try.func22 (fun _ => by kernel_rfl) (by kernel_rfl) (by kernel_rfl) ?_
    rotate_left
    refine Xg.ops_op (by kernel_rfl) (Xg.opx_pure ((Value.bool false)) rfl (fun _ => by kernel_rfl) ?_)
    refine Xg.ops_op (by kernel_rfl) (Xg.opx_pure ((Value.bool false)) rfl (fun _ => by kernel_rfl) ?_)
    refine Xg.ops_nil ?_
    refine Xg.at_false (t := false) (by kernel_rfl) rfl ?_
    refine Xg.at_region ?_
    refine Xg.ops_op (by kernel_rfl) (Xg.opx_pure ((pv p 0)) rfl (fun _ => by kernel_rfl) ?_)
    refine Xg.ops_op (by kernel_rfl) (Xg.opx_pure ((iv a)) rfl (fun _ => by kernel_rfl) ?_)
    refine Xg.ops_op (by kernel_rfl) (Xg.opx_int .i64 (IntKind.wrap .i64 ((a - (65344 : Int)))) rfl (fun _ => by kernel_rfl) (Xg.wrap_i64_in (by omega)) ?_)
    refine Xg.ops_op (by kernel_rfl) (Xg.opx_pure ((iv (band IntKind.i64 d (255 : Int)))) rfl (fun _ => by kernel_rfl) ?_)
    refine Xg.ops_op (by kernel_rfl) (Xg.opx_call1' [0] [PpR p (setP σ (a - (65344 : Int)) (band IntKind.i64 d (255 : Int)))] (fun _ => by kernel_rfl) (@Go.Proofs.Ytkfclamiendamaa.set_d (p) (σ) (by omega) ((a - (65344 : Int))) ((band IntKind.i64 d (255 : Int))) (by omega) (by omega)) (by kernel_rfl) (by kernel_rfl) (by kernel_rfl) ?_)
    refine Xg.ops_nil ?_
    refine Xg.at_inBlock ?_
    refine Xg.at_end_ps (v := (tu)) [0] [PpR p (setP σ (a - (65344 : Int)) (band IntKind.i64 d (255 : Int)))] Go.Proofs.Try.func22 (fun _ => by kernel_rfl) (by kernel_rfl) (by kernel_rfl) ?_
    rotate_left
    refine Xg.ops_skip (by kernel_rfl) ?_
    refine Xg.ops_skip (by kernel_rfl) ?_
    refine Xg.ops_op (by kernel_rfl) (Xg.opx_pure ((Value.bool false)) rfl (fun _ => by kernel_rfl) ?_)
    refine Xg.ops_op (by kernel_rfl) (Xg.opx_pure ((Value.bool false)) rfl (fun _ => by kernel_rfl) ?_)
    refine Xg.ops_nil ?_
    refine Xg.at_false (t := false) (by kernel_rfl) rfl ?_
    refine Xg.at_seq ?_
    refine Xg.at_region ?_
    refine Xg.ops_op (by kernel_rfl) (Xg.opx_pure ((iv a)) rfl (fun _ => by kernel_rfl) ?_)
    refine Xg.ops_op (by kernel_rfl) (Xg.opx_pure (.bool (decide ((a : Int) < ((65344 : Int))))) rfl (fun _ => by kernel_rfl) ?_)
    refine Xg.ops_op (by kernel_rfl) (Xg.opx_pure ((Value.bool (decide (a < (65344 : Int))))) rfl (fun _ => by kernel_rfl) ?_)
    refine Xg.ops_flag (j := 53) (c := (decide (a < (65344 : Int)))) (by kernel_rfl) (fun _ => ?_) (fun xh5 => absurd (of_decide_eq_false xh5) (by omega))
    refine Xg.ops_skip (by kernel_rfl) ?_
    refine Xg.ops_skip (by kernel_rfl) ?_
    refine Xg.ops_op (by kernel_rfl) (Xg.opx_pure ((Value.bool true)) rfl (fun _ => by kernel_rfl) ?_)
    refine Xg.ops_op (by kernel_rfl) (Xg.opx_pure ((Value.bool true)) rfl (fun _ => by kernel_rfl) ?_)
    refine Xg.ops_nil ?_
    refine Xg.at_true (t := true) (by kernel_rfl) rfl ?_
    refine Xg.at_skip ?_
    refine Xg.at_inBlock ?_
    refine Xg.at_end_ps (v := (tu)) [0] [PpR p σ] Go.Proofs.Try.func22 (fun _ => by kernel_rfl) (by kernel_rfl) (by kernel_rfl) ?_
    rotate_left
    refine Xg.ops_skip (by kernel_rfl) ?_
    refine Xg.ops_skip (by kernel_rfl) ?_
    refine Xg.ops_op (by kernel_rfl) (Xg.opx_pure ((Value.bool false)) rfl (fun _ => by kernel_rfl) ?_)
    refine Xg.ops_op (by kernel_rfl) (Xg.opx_pure ((Value.bool false)) rfl (fun _ => by kernel_rfl) ?_)
    refine Xg.ops_nil ?_
    refine Xg.at_false (t := false) (by kernel_rfl) rfl ?_
    refine Xg.at_seq ?_
    refine Xg.at_region ?_
    refine Xg.ops_op (by kernel_rfl) (Xg.opx_pure ((iv a)) rfl (fun _ => by kernel_rfl) ?_)
    refine Xg.ops_op (by kernel_rfl) (Xg.opx_pure (.bool (decide ((a : Int) ≥ ((65024 : Int))))) rfl (fun _ => by kernel_rfl) ?_)
    refine Xg.ops_op (by kernel_rfl) (Xg.opx_pure ((Value.bool (decide (a ≥ (65024 : Int))))) rfl (fun _ => by kernel_rfl) ?_)
    refine Xg.ops_flag (j := 36) (c := (decide (a ≥ (65024 : Int)))) (by kernel_rfl) (fun xh3 => absurd (of_decide_eq_true xh3) (by omega)) (fun _ => ?_)
    refine Xg.ops_skip (by kernel_rfl) ?_
    refine Xg.ops_skip (by kernel_rfl) ?_
    refine Xg.ops_op (by kernel_rfl) (Xg.opx_pure ((Value.bool false)) rfl (fun _ => by kernel_rfl) ?_)
    refine Xg.ops_op (by kernel_rfl) (Xg.opx_pure ((Value.bool false)) rfl (fun _ => by kernel_rfl) ?_)
    refine Xg.ops_nil ?_
    refine Xg.at_false (t := false) (by kernel_rfl) rfl ?_
    refine Xg.at_seq ?_
    refine Xg.at_region ?_
    refine Xg.ops_op (by kernel_rfl) (Xg.opx_pure ((iv a)) rfl (fun _ => by kernel_rfl) ?_)
    refine Xg.ops_op (by kernel_rfl) (Xg.opx_pure (.bool (decide ((a : Int) < ((65344 : Int))))) rfl (fun _ => by kernel_rfl) ?_)
    refine Xg.ops_op (by kernel_rfl) (Xg.opx_pure ((Value.bool (decide (a < (65344 : Int))))) rfl (fun _ => by kernel_rfl) ?_)
    refine Xg.ops_flag (j := 53) (c := (decide (a < (65344 : Int)))) (by kernel_rfl) (fun _ => ?_) (fun xh3 => absurd (of_decide_eq_false xh3) (by omega))
    refine Xg.ops_skip (by kernel_rfl) ?_
    refine Xg.ops_skip (by kernel_rfl) ?_
    refine Xg.ops_op (by kernel_rfl) (Xg.opx_pure ((Value.bool true)) rfl (fun _ => by kernel_rfl) ?_)
    refine Xg.ops_op (by kernel_rfl) (Xg.opx_pure ((Value.bool true)) rfl (fun _ => by kernel_rfl) ?_)
    refine Xg.ops_nil ?_
    refine Xg.at_true (t := true) (by kernel_rfl) rfl ?_
    refine Xg.at_skip ?_
    refine Xg.at_inBlock ?_
    refine Xg.at_end_ps (v := (tu)) [0] [PpR p σ] Go.Proofs.Try.func22 (fun _ => by kernel_rfl) (by kernel_rfl) (by kernel_rfl) ?_)
  all_goals
    refine ⟨rfl, congrArg (fun x => [PpR p x]) ?_⟩
    unfold writeP
    try rw [hd]
    (repeat' split) <;> first | rfl | (exfalso; omega)

theorem memory_d (p : Nat) (σ : Pp) (hσ : σ.Wf) (a : Int) (ha : -9223372036854775808 ≤ a ∧ a ≤ 9223372036854775807) : Does Try.prog 25 [pt p, .int .i64 a] [PpR p σ]
    (Ret (.int .i64 (if 32768 ≤ a ∧ a < 40960 then σ.vram (a - 32768).toNat else if 65024 ≤ a ∧ a < 65184 then σ.oam (a - 65024).toNat else 255)) [PpR p σ]) := by
  have hv := hσ.vram (a - 32768).toNat
  have ho := hσ.oam (a - 65024).toNat
  (focus
    refine Xg.spec_of Go.Proofs.Try.func25 rfl Go.Proofs.Try.ntmps25 fun g F => ?_)
  (focus
    refine Xg.at_seq ?_
    refine Xg.at_region ?_
    refine Xg.ops_op (by kernel_rfl) (Xg.opx_pure ((iv 0)) rfl (fun _ => by kernel_rfl) ?_)
    refine Xg.ops_nil ?_
    refine Xg.at_seq ?_
    refine Xg.at_block ?_
    refine Xg.at_seq ?_
    refine Xg.at_region ?_
    refine Xg.ops_op (by kernel_rfl) (Xg.opx_pure ((iv a)) rfl (fun _ => by kernel_rfl) ?_)
    refine Xg.ops_op (by kernel_rfl) (Xg.opx_pure (.bool (decide ((a : Int) ≥ ((32768 : Int))))) rfl (fun _ => by kernel_rfl) ?_)
    refine Xg.ops_op (by kernel_rfl) (Xg.opx_pure ((Value.bool (decide (a ≥ (32768 : Int))))) rfl (fun _ => by kernel_rfl) ?_)
    refine Xg.ops_flag (j := 8) (c := (decide (a ≥ (32768 : Int)))) (by kernel_rfl) (fun xh1 => ?_) (fun xh1 => ?_)
    replace xh1 : (a ≥ (32768 : Int)) := of_decide_eq_true xh1
    rotate_left
    replace xh1 : ¬ ((a ≥ (32768 : Int))) := of_decide_eq_false xh1
    rotate_right
    refine Xg.ops_op (by kernel_rfl) (Xg.opx_pure ((iv a)) rfl (fun _ => by kernel_rfl) ?_)
    refine Xg.ops_op (by kernel_rfl) (Xg.opx_pure (.bool (decide ((a : Int) < ((40960 : Int))))) rfl (fun _ => by kernel_rfl) ?_)
    refine Xg.ops_flag (j := 10) (c := (decide (a < (40960 : Int)))) (by kernel_rfl) (fun xh2 => ?_) (fun xh2 => ?_)
    replace xh2 : (a < (40960 : Int)) := of_decide_eq_true xh2
    rotate_left
    replace xh2 : ¬ ((a < (40960 : Int))) := of_decide_eq_false xh2
    rotate_right
    refine Xg.ops_op (by kernel_rfl) (Xg.opx_pure ((Value.bool true)) rfl (fun _ => by kernel_rfl) ?_)
    refine Xg.ops_op (by kernel_rfl) (Xg.opx_pure ((Value.bool true)) rfl (fun _ => by kernel_rfl) ?_)
    refine Xg.ops_nil ?_
    refine Xg.at_true (t := true) (by kernel_rfl) rfl ?_
    refine Xg.at_seq ?_
    refine Xg.at_region ?_
    refine Xg.ops_op (by kernel_rfl) (Xg.opx_pure ((pv p 0)) rfl (fun _ => by kernel_rfl) ?_)
    refine Xg.ops_op (by kernel_rfl) (Xg.opx_pure ((iv a)) rfl (fun _ => by kernel_rfl) ?_)
    refine Xg.ops_op (by kernel_rfl) (Xg.opx_int .i64 (IntKind.wrap .i64 ((a - (32768 : Int)))) rfl (fun _ => by kernel_rfl) (Xg.wrap_i64_in (by omega)) ?_)
    refine Xg.ops_op (by kernel_rfl) (Xg.opx_pure ((pv p 0)) rfl (fun _ => by kernel_rfl) ?_)
    refine Xg.ops_op (by kernel_rfl) (Xg.opx_pure ((pv p 12)) rfl (fun _ => by kernel_rfl) ?_)
    refine Xg.ops_op (by kernel_rfl) (Xg.opx_run (.pointer (some (Addr.mk p ((12 : Nat) + (a - (32768 : Int)).toNat) none))) rfl (Xg.run_ix_array' (elem := 5) (len := 8192) (b := p) (off := ((12 : Nat))) (kd := .i64) (e := (a - (32768 : Int))) 1 ((a - (32768 : Int)).toNat) ((12 : Nat) + (a - (32768 : Int)).toNat) (by kernel_rfl) (by kernel_rfl) (by kernel_rfl) (by kernel_rfl) (by omega) (by omega) (by omega)) ?_)
    refine Xg.ops_op (by kernel_rfl) (Xg.opx_load (b := p) (off := ((12 : Nat) + (a - (32768 : Int)).toNat)) 0 (uv (σ.vram (a - (32768 : Int)).toNat)) rfl (by kernel_rfl) (@Go.Proofs.Ytkfclamiendamaa.g_vram (σ) (((a - (32768 : Int)).toNat)) (by omega)) (by kernel_rfl) ?_)
    refine Xg.ops_op (by kernel_rfl) (Xg.opx_int .i64 (IntKind.wrap .i64 ((σ.vram (a - (32768 : Int)).toNat))) rfl (fun _ => by kernel_rfl) (Xg.wrap_i64_in (by omega)) ?_)
    refine Xg.ops_op (by kernel_rfl) (Xg.opx_pure ((iv (σ.vram (a - (32768 : Int)).toNat))) rfl (fun _ => by kernel_rfl) ?_)
    refine Xg.ops_nil ?_
    refine Xg.at_ret_ps (v := (iv (σ.vram (a - (32768 : Int)).toNat))) [0] [PpR p σ] Go.Proofs.Try.func25 (fun _ => by kernel_rfl) (by kernel_rfl) (by kernel_rfl) ?_
    rotate_left
    refine Xg.ops_op (by kernel_rfl) (Xg.opx_pure ((Value.bool false)) rfl (fun _ => by kernel_rfl) ?_)
    refine Xg.ops_op (by kernel_rfl) (Xg.opx_pure ((Value.bool false)) rfl (fun _ => by kernel_rfl) ?_)
    refine Xg.ops_nil ?_
    refine Xg.at_false (t := false) (by kernel_rfl) rfl ?_
    refine Xg.at_seq ?_
    refine Xg.at_region ?_
    refine Xg.ops_op (by kernel_rfl) (Xg.opx_pure ((iv a)) rfl (fun _ => by kernel_rfl) ?_)
    refine Xg.ops_op (by kernel_rfl) (Xg.opx_pure (.bool (decide ((a : Int) ≥ ((65024 : Int))))) rfl (fun _ => by kernel_rfl) ?_)
    refine Xg.ops_op (by kernel_rfl) (Xg.opx_pure ((Value.bool (decide (a ≥ (65024 : Int))))) rfl (fun _ => by kernel_rfl) ?_)
    refine Xg.ops_flag (j := 23) (c := (decide (a ≥ (65024 : Int)))) (by kernel_rfl) (fun xh3 => ?_) (fun xh3 => ?_)
    replace xh3 : (a ≥ (65024 : Int)) := of_decide_eq_true xh3
    rotate_left
    replace xh3 : ¬ ((a ≥ (65024 : Int))) := of_decide_eq_false xh3
    rotate_right
    refine Xg.ops_op (by kernel_rfl) (Xg.opx_pure ((iv a)) rfl (fun _ => by kernel_rfl) ?_)
    refine Xg.ops_op (by kernel_rfl) (Xg.opx_pure (.bool (decide ((a : Int) < ((65184 : Int))))) rfl (fun _ => by kernel_rfl) ?_)
    refine Xg.ops_flag (j := 25) (c := (decide (a < (65184 : Int)))) (by kernel_rfl) (fun xh4 => ?_) (fun xh4 => ?_)
    replace xh4 : (a < (65184 : Int)) := of_decide_eq_true xh4
    rotate_left
    replace xh4 : ¬ ((a < (65184 : Int))) := of_decide_eq_false xh4
    rotate_right
    refine Xg.ops_op (by kernel_rfl) (Xg.opx_pure ((Value.bool true)) rfl (fun _ => by kernel_rfl) ?_)
    refine Xg.ops_op (by kernel_rfl) (Xg.opx_pure ((Value.bool true)) rfl (fun _ => by kernel_rfl) ?_)
    refine Xg.ops_nil ?_
    refine Xg.at_true (t := true) (by kernel_rfl) rfl ?_
    refine Xg.at_seq ?_
    refine Xg.at_region ?_
    refine Xg.ops_op (by kernel_rfl) (Xg.opx_pure ((pv p 0)) rfl (fun _ => by kernel_rfl) ?_)
    refine Xg.ops_op (by kernel_rfl) (Xg.opx_pure ((iv a)) rfl (fun _ => by kernel_rfl) ?_)
    refine Xg.ops_op (by kernel_rfl) (Xg.opx_int .i64 (IntKind.wrap .i64 ((a - (65024 : Int)))) rfl (fun _ => by kernel_rfl) (Xg.wrap_i64_in (by omega)) ?_)
    refine Xg.ops_op (by kernel_rfl) (Xg.opx_pure ((pv p 0)) rfl (fun _ => by kernel_rfl) ?_)
    refine Xg.ops_op (by kernel_rfl) (Xg.opx_pure ((pv p 8204)) rfl (fun _ => by kernel_rfl) ?_)
    refine Xg.ops_op (by kernel_rfl) (Xg.opx_run (.pointer (some (Addr.mk p ((8204 : Nat) + (a - (65024 : Int)).toNat) none))) rfl (Xg.run_ix_array' (elem := 5) (len := 160) (b := p) (off := ((8204 : Nat))) (kd := .i64) (e := (a - (65024 : Int))) 1 ((a - (65024 : Int)).toNat) ((8204 : Nat) + (a - (65024 : Int)).toNat) (by kernel_rfl) (by kernel_rfl) (by kernel_rfl) (by kernel_rfl) (by omega) (by omega) (by omega)) ?_)
    refine Xg.ops_op (by kernel_rfl) (Xg.opx_load (b := p) (off := ((8204 : Nat) + (a - (65024 : Int)).toNat)) 0 (uv (σ.oam (a - (65024 : Int)).toNat)) rfl (by kernel_rfl) (@Go.Proofs.Ytkfclamiendamaa.g_oam (σ) (((a - (65024 : Int)).toNat)) (by omega)) (by kernel_rfl) ?_)
    refine Xg.ops_op (by kernel_rfl) (Xg.opx_int .i64 (IntKind.wrap .i64 ((σ.oam (a - (65024 : Int)).toNat))) rfl (fun _ => by kernel_rfl) (Xg.wrap_i64_in (by omega)) ?_)
    refine Xg.ops_op (by kernel_rfl) (Xg.opx_pure ((iv (σ.oam (a - (65024 : Int)).toNat))) rfl (fun _ => by kernel_rfl) ?_)
    refine Xg.ops_nil ?_
    refine Xg.at_ret_ps (v := (iv (σ.oam (a - (65024 : Int)).toNat))) [0] [PpR p σ] Go.Proofs.Try.func25 (fun _ => by kernel_rfl) (by kernel_rfl) (by kernel_rfl) ?_
    rotate_left
    refine Xg.ops_op (by kernel_rfl) (Xg.opx_pure ((Value.bool false)) rfl (fun _ => by kernel_rfl) ?_)
    refine Xg.ops_op (by kernel_rfl) (Xg.opx_pure ((Value.bool false)) rfl (fun _ => by kernel_rfl) ?_)
    refine Xg.ops_nil ?_
    refine Xg.at_false (t := false) (by kernel_rfl) rfl ?_
    refine Xg.at_skip ?_
    refine Xg.at_inBlock ?_
    refine Xg.at_seq ?_
    refine Xg.at_region ?_
    refine Xg.ops_op (by kernel_rfl) (Xg.opx_pure ((iv 255)) rfl (fun _ => by kernel_rfl) ?_)
    refine Xg.ops_nil ?_
    refine Xg.at_ret_ps (v := (iv 255)) [0] [PpR p σ] Go.Proofs.Try.func25 (fun _ => by kernel_rfl) (by kernel_rfl) (by kernel_rfl) ?_
    rotate_left
    refine Xg.ops_skip (by kernel_rfl) ?_
    refine Xg.ops_skip (by kernel_rfl) ?_
    refine Xg.ops_op (by kernel_rfl) (Xg.opx_pure ((Value.bool false)) rfl (fun _ => by kernel_rfl) ?_)
    refine Xg.ops_op (by kernel_rfl) (Xg.opx_pure ((Value.bool false)) rfl (fun _ => by kernel_rfl) ?_)
    refine Xg.ops_nil ?_
    refine Xg.at_false (t := false) (by kernel_rfl) rfl ?_
    refine Xg.at_skip ?_
    refine Xg.at_inBlock ?_
    refine Xg.at_seq ?_
    refine Xg.at_region ?_
    refine Xg.ops_op (by kernel_rfl) (Xg.opx_pure ((iv 255)) rfl (fun _ => by kernel_rfl) ?_)
    refine Xg.ops_nil ?_
    refine Xg.at_ret_ps (v := (iv 255)) [0] [PpR p σ] Go.Proofs.Try.func25 (fun _ => by kernel_rfl) (by kernel_rfl) (by kernel_rfl) ?_
    rotate_left
    refine Xg.ops_skip (by kernel_rfl) ?_
    refine Xg.ops_skip (by kernel_rfl) ?_
    refine Xg.ops_op (by kernel_rfl) (Xg.opx_pure ((Value.bool false)) rfl (fun _ => by kernel_rfl) ?_)
    refine Xg.ops_op (by kernel_rfl) (Xg.opx_pure ((Value.bool false)) rfl (fun _ => by kernel_rfl) ?_)
    refine Xg.ops_nil ?_
    refine Xg.at_false (t := false) (by kernel_rfl) rfl ?_
    refine Xg.at_seq ?_
    refine Xg.at_region ?_
    refine Xg.ops_op (by kernel_rfl) (Xg.opx_pure ((iv a)) rfl (fun _ => by kernel_rfl) ?_)
    refine Xg.ops_op (by kernel_rfl) (Xg.opx_pure (.bool (decide ((a : Int) ≥ ((65024 : Int))))) rfl (fun _ => by kernel_rfl) ?_)
    refine Xg.ops_op (by kernel_rfl) (Xg.opx_pure ((Value.bool (decide (a ≥ (65024 : Int))))) rfl (fun _ => by kernel_rfl) ?_)
    refine Xg.ops_flag (j := 23) (c := (decide (a ≥ (65024 : Int)))) (by kernel_rfl) (fun xh2 => absurd (of_decide_eq_true xh2) (by omega)) (fun _ => ?_)
    refine Xg.ops_skip (by kernel_rfl) ?_
    refine Xg.ops_skip (by kernel_rfl) ?_
    refine Xg.ops_op (by kernel_rfl) (Xg.opx_pure ((Value.bool false)) rfl (fun _ => by kernel_rfl) ?_)
    refine Xg.ops_op (by kernel_rfl) (Xg.opx_pure ((Value.bool false)) rfl (fun _ => by kernel_rfl) ?_)
    refine Xg.ops_nil ?_
    refine Xg.at_false (t := false) (by kernel_rfl) rfl ?_
    refine Xg.at_skip ?_
    refine Xg.at_inBlock ?_
    refine Xg.at_seq ?_
    refine Xg.at_region ?_
    refine Xg.ops_op (by kernel_rfl) (Xg.opx_pure ((iv 255)) rfl (fun _ => by kernel_rfl) ?_)
    refine Xg.ops_nil ?_
    refine Xg.at_ret_ps (v := (iv 255)) [0] [PpR p σ] Go.Proofs.Try.func25 (fun _ => by kernel_rfl) (by kernel_rfl) (by kernel_rfl) ?_)
  all_goals
    refine ⟨congrArg (Value.int .i64) ?_, rfl⟩
    (repeat' split) <;> first | rfl | (exfalso; omega)

theorem dma_d (p : Nat) (σ : Pp) (i d : Int) : Does Try.prog 44 [pt p, .int .i64 i, .int .i64 d] [PpR p σ]
    (Ret (.tuple #[]) [PpR p (if 0 ≤ i ∧ i < 160 then { σ with oam := upd σ.oam i.toNat (d % 256) } else σ)]) := by
  (focus
    refine Xg.spec_of Go.Proofs.Try.func44 rfl Go.Proofs.Try.ntmps44 fun g F => ?_)
  (focus
    refine Xg.at_seq ?_
    refine Xg.at_region ?_
    refine Xg.ops_op (by kernel_rfl) (Xg.opx_pure ((iv i)) rfl (fun _ => by kernel_rfl) ?_)
    refine Xg.ops_op (by kernel_rfl) (Xg.opx_pure (.bool (decide ((i : Int) ≥ ((0 : Int))))) rfl (fun _ => by kernel_rfl) ?_)
    refine Xg.ops_op (by kernel_rfl) (Xg.opx_pure ((Value.bool (decide (i ≥ (0 : Int))))) rfl (fun _ => by kernel_rfl) ?_)
    refine Xg.ops_flag (j := 8) (c := (decide (i ≥ (0 : Int)))) (by kernel_rfl) (fun xh1 => ?_) (fun xh1 => ?_)
    replace xh1 : (i ≥ (0 : Int)) := of_decide_eq_true xh1
    rotate_left
    replace xh1 : ¬ ((i ≥ (0 : Int))) := of_decide_eq_false xh1
    rotate_right
    refine Xg.ops_op (by kernel_rfl) (Xg.opx_pure ((iv i)) rfl (fun _ => by kernel_rfl) ?_)
    refine Xg.ops_op (by kernel_rfl) (Xg.opx_pure (.bool (decide ((i : Int) < ((160 : Int))))) rfl (fun _ => by kernel_rfl) ?_)
    refine Xg.ops_flag (j := 10) (c := (decide (i < (160 : Int)))) (by kernel_rfl) (fun xh2 => ?_) (fun xh2 => ?_)
    replace xh2 : (i < (160 : Int)) := of_decide_eq_true xh2
    rotate_left
    replace xh2 : ¬ ((i < (160 : Int))) := of_decide_eq_false xh2
    rotate_right
    refine Xg.ops_op (by kernel_rfl) (Xg.opx_pure ((Value.bool true)) rfl (fun _ => by kernel_rfl) ?_)
    refine Xg.ops_nil ?_
    refine Xg.at_true (t := true) (by kernel_rfl) rfl ?_
    refine Xg.at_region ?_
    refine Xg.ops_op (by kernel_rfl) (Xg.opx_pure ((pv p 0)) rfl (fun _ => by kernel_rfl) ?_)
    refine Xg.ops_op (by kernel_rfl) (Xg.opx_pure ((iv i)) rfl (fun _ => by kernel_rfl) ?_)
    refine Xg.ops_op (by kernel_rfl) (Xg.opx_pure ((iv d)) rfl (fun _ => by kernel_rfl) ?_)
    refine Xg.ops_op (by kernel_rfl) (Xg.opx_int .u8 (IntKind.wrap .u8 (d)) rfl (fun _ => by kernel_rfl) (Xg.wrap_u8_mod _) ?_)
    refine Xg.ops_op (by kernel_rfl) (Xg.opx_pure ((pv p 0)) rfl (fun _ => by kernel_rfl) ?_)
    refine Xg.ops_op (by kernel_rfl) (Xg.opx_pure ((pv p 8204)) rfl (fun _ => by kernel_rfl) ?_)
    refine Xg.ops_op (by kernel_rfl) (Xg.opx_run (.pointer (some (Addr.mk p ((8204 : Nat) + i.toNat) none))) rfl (Xg.run_ix_array' (elem := 5) (len := 160) (b := p) (off := ((8204 : Nat))) (kd := .i64) (e := i) 1 i.toNat ((8204 : Nat) + i.toNat) (by kernel_rfl) (by kernel_rfl) (by kernel_rfl) (by kernel_rfl) (by omega) (by omega) (by omega)) ?_)
    refine Xg.ops_op (by kernel_rfl) (Xg.opx_store_c (off := ((8204 : Nat) + i.toNat)) (cs' := (ppc (Pp.mk σ.regs σ.vram (upd σ.oam i.toNat (d % (256 : Int))) σ.clock σ.seen σ.rows σ.now σ.last))) 0 (uv (d % (256 : Int))) (by kernel_rfl) rfl (by kernel_rfl) (by kernel_rfl) (by kernel_rfl) (@Go.Proofs.Ytkfclamiendamaa.s_oam (σ) (i.toNat) ((d % (256 : Int))) (by omega)) ?_)
    refine Xg.ops_nil ?_
    refine Xg.at_end_ps (v := (tu)) [0] [row p (77 : TypeId) (ppc (Pp.mk σ.regs σ.vram (upd σ.oam i.toNat (d % (256 : Int))) σ.clock σ.seen σ.rows σ.now σ.last))] Go.Proofs.Try.func44 (fun _ => by kernel_rfl) (by kernel_rfl) (by kernel_rfl) ?_
    rotate_left
    refine Xg.ops_op (by kernel_rfl) (Xg.opx_pure ((Value.bool false)) rfl (fun _ => by kernel_rfl) ?_)
    refine Xg.ops_nil ?_
    refine Xg.at_false (t := false) (by kernel_rfl) rfl ?_
    refine Xg.at_skip ?_
    refine Xg.at_end_ps (v := (tu)) [0] [PpR p σ] Go.Proofs.Try.func44 (fun _ => by kernel_rfl) (by kernel_rfl) (by kernel_rfl) ?_
    rotate_left
    refine Xg.ops_skip (by kernel_rfl) ?_
    refine Xg.ops_skip (by kernel_rfl) ?_
    refine Xg.ops_op (by kernel_rfl) (Xg.opx_pure ((Value.bool false)) rfl (fun _ => by kernel_rfl) ?_)
    refine Xg.ops_nil ?_
    refine Xg.at_false (t := false) (by kernel_rfl) rfl ?_
    refine Xg.at_skip ?_
    refine Xg.at_end_ps (v := (tu)) [0] [PpR p σ] Go.Proofs.Try.func44 (fun _ => by kernel_rfl) (by kernel_rfl) (by kernel_rfl) ?_)
  all_goals
    refine ⟨rfl, congrArg (fun x => [PpR p x]) ?_⟩
    (repeat' split) <;> first | rfl | (exfalso; omega)

end Go.Proofs.Ytkfclamiendamaa
