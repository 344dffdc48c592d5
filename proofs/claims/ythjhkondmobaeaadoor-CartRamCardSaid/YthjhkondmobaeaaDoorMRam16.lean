import Derived.Test.YthjhkondmobaeaaDoorMRam15
/- cart: the mappers. -/
namespace Go.Proofs.YthjhkondmobaeaaDoor
open Go.Sl Go.Xg
set_option linter.unusedVariables false
set_option linter.unusedSimpArgs false
set_option maxHeartbeats 4000000
set_option maxRecDepth 100000

/-- The registers. -/
structure Rg where
  on : Int
  lo : Int
  hi : Int
  pk : Int
  md : Int
  deriving Inhabited
structure Rg.Ok (r : Rg) : Prop where
  on : 0 ≤ r.on ∧ r.on ≤ 1
  lo : 0 ≤ r.lo ∧ r.lo ≤ 255
  hi : 0 ≤ r.hi ∧ r.hi ≤ 1
  pk : 0 ≤ r.pk ∧ r.pk ≤ 15
  md : 0 ≤ r.md ∧ r.md ≤ 1
abbrev MR1 (b : Nat) (r : Rg) : HP := row b 74 [.int .u8 r.on, .int .u8 r.pk, .int .i64 r.lo, .int .u8 r.md]
abbrev MR2 (b : Nat) (r : Rg) : HP := row b 77 [.int .u8 r.on, .int .u8 r.pk, .int .i64 r.lo]
abbrev MR3 (b : Nat) (r : Rg) : HP := row b 79 [.int .u8 r.on, .int .u8 r.pk, .int .i64 r.lo]
abbrev MR5 (b : Nat) (r : Rg) : HP := row b 82 [.int .u8 r.on, .int .u8 r.pk, .int .i64 r.lo, .int .u8 r.hi]
theorem low1_d (b : Nat) (r : Rg) (hr : r.Ok) : Does Tryd.prog 55 [.pointer (some ⟨b, 0, none⟩)] [MR1 b r] (Ret (.int .i64 (if r.md = 1 then r.pk * 32 else 0)) [MR1 b r]) := by
  obtain ⟨on, lo, hi, pk, md⟩ := r
  obtain ⟨h1, h2, h3, h4, h5⟩ := hr
  dsimp only at h1 h2 h3 h4 h5 ⊢
  by_cases h : md = 1
  · rw [if_pos h]
    (focus
      refine Xg.spec_of Go.Proofs.Tryd.func55 rfl Go.Proofs.Tryd.ntmps55 fun g F => ?_)
    (focus
      refine Xg.at_seq ?_
      refine Xg.at_region ?_
      refine Xg.ops_op (by kernel_rfl) (Xg.opx_pure ((iv 0)) rfl (fun _ => by kernel_rfl) ?_)
      refine Xg.ops_nil ?_
      refine Xg.at_seq ?_
      refine Xg.at_seq ?_
      refine Xg.at_region ?_
      refine Xg.ops_op (by kernel_rfl) (Xg.opx_pure ((pv b 0)) rfl (fun _ => by kernel_rfl) ?_)
      refine Xg.ops_op (by kernel_rfl) (Xg.opx_pure ((pv b 0)) rfl (fun _ => by kernel_rfl) ?_)
      refine Xg.ops_op (by kernel_rfl) (Xg.opx_pure ((pv b 3)) rfl (fun _ => by kernel_rfl) ?_)
      refine Xg.ops_op (by kernel_rfl) (Xg.opx_load (b := b) (off := ((3 : Nat))) 0 (uv md) rfl (by kernel_rfl) (by kernel_rfl) (by kernel_rfl) ?_)
      refine Xg.ops_op (by kernel_rfl) (Xg.opx_pure (.bool (decide ((md : Int) = ((1 : Int))))) rfl (fun _ => by kernel_rfl) ?_)
      refine Xg.ops_nil ?_
      refine Xg.at_true (t := decide ((md = (1 : Int)))) (by kernel_rfl) (decide_eq_true (by omega)) ?_
      refine Xg.at_seq ?_
      refine Xg.at_region ?_
      refine Xg.ops_op (by kernel_rfl) (Xg.opx_pure ((pv b 0)) rfl (fun _ => by kernel_rfl) ?_)
      refine Xg.ops_op (by kernel_rfl) (Xg.opx_pure ((pv b 0)) rfl (fun _ => by kernel_rfl) ?_)
      refine Xg.ops_op (by kernel_rfl) (Xg.opx_pure ((pv b 0)) rfl (fun _ => by kernel_rfl) ?_)
      refine Xg.ops_op (by kernel_rfl) (Xg.opx_pure ((pv b 1)) rfl (fun _ => by kernel_rfl) ?_)
      refine Xg.ops_op (by kernel_rfl) (Xg.opx_load (b := b) (off := ((1 : Nat))) 0 (uv pk) rfl (by kernel_rfl) (by kernel_rfl) (by kernel_rfl) ?_)
      refine Xg.ops_op (by kernel_rfl) (Xg.opx_int .i64 (IntKind.wrap .i64 (pk)) rfl (fun _ => by kernel_rfl) (Xg.wrap_i64_in (by omega)) ?_)
      refine Xg.ops_op (by kernel_rfl) (Xg.opx_int .i64 (IntKind.wrap .i64 ((pk * (32 : Int)))) rfl (fun _ => by kernel_rfl) (Xg.wrap_i64_in (by omega)) ?_)
      refine Xg.ops_op (by kernel_rfl) (Xg.opx_pure ((iv (pk * (32 : Int)))) rfl (fun _ => by kernel_rfl) ?_)
      refine Xg.ops_nil ?_
      refine Xg.at_ret_ps (v := (iv (pk * (32 : Int)))) [0] [MR1 b (Rg.mk on lo hi pk md)] Go.Proofs.Tryd.func55 (fun _ => by kernel_rfl) (by kernel_rfl) (by kernel_rfl) ?_
      exact ⟨by kernel_rfl, by kernel_rfl⟩)
  · rw [if_neg h]
    (focus
      refine Xg.spec_of Go.Proofs.Tryd.func55 rfl Go.Proofs.Tryd.ntmps55 fun g F => ?_)
    (focus
      refine Xg.at_seq ?_
      refine Xg.at_region ?_
      refine Xg.ops_op (by kernel_rfl) (Xg.opx_pure ((iv 0)) rfl (fun _ => by kernel_rfl) ?_)
      refine Xg.ops_nil ?_
      refine Xg.at_seq ?_
      refine Xg.at_seq ?_
      refine Xg.at_region ?_
      refine Xg.ops_op (by kernel_rfl) (Xg.opx_pure ((pv b 0)) rfl (fun _ => by kernel_rfl) ?_)
      refine Xg.ops_op (by kernel_rfl) (Xg.opx_pure ((pv b 0)) rfl (fun _ => by kernel_rfl) ?_)
      refine Xg.ops_op (by kernel_rfl) (Xg.opx_pure ((pv b 3)) rfl (fun _ => by kernel_rfl) ?_)
      refine Xg.ops_op (by kernel_rfl) (Xg.opx_load (b := b) (off := ((3 : Nat))) 0 (uv md) rfl (by kernel_rfl) (by kernel_rfl) (by kernel_rfl) ?_)
      refine Xg.ops_op (by kernel_rfl) (Xg.opx_pure (.bool (decide ((md : Int) = ((1 : Int))))) rfl (fun _ => by kernel_rfl) ?_)
      refine Xg.ops_nil ?_
      refine Xg.at_false (t := decide ((md = (1 : Int)))) (by kernel_rfl) (decide_eq_false (by omega)) ?_
      refine Xg.at_skip ?_
      refine Xg.at_seq ?_
      refine Xg.at_region ?_
      refine Xg.ops_op (by kernel_rfl) (Xg.opx_pure ((iv 0)) rfl (fun _ => by kernel_rfl) ?_)
      refine Xg.ops_nil ?_
      refine Xg.at_ret_ps (v := (iv 0)) [0] [MR1 b (Rg.mk on lo hi pk md)] Go.Proofs.Tryd.func55 (fun _ => by kernel_rfl) (by kernel_rfl) (by kernel_rfl) ?_
      exact ⟨by kernel_rfl, by kernel_rfl⟩)
theorem high1_d (b : Nat) (r : Rg) (hr : r.Ok) : Does Tryd.prog 54 [.pointer (some ⟨b, 0, none⟩)] [MR1 b r] (Ret (.int .i64 (r.lo + 32 * r.pk)) [MR1 b r]) := by
  obtain ⟨on, lo, hi, pk, md⟩ := r
  obtain ⟨h1, h2, h3, h4, h5⟩ := hr
  dsimp only at h1 h2 h3 h4 h5 ⊢
  (focus
    refine Xg.spec_of Go.Proofs.Tryd.func54 rfl Go.Proofs.Tryd.ntmps54 fun g F => ?_)
  (focus
    refine Xg.at_seq ?_
    refine Xg.at_region ?_
    refine Xg.ops_op (by kernel_rfl) (Xg.opx_pure ((iv 0)) rfl (fun _ => by kernel_rfl) ?_)
    refine Xg.ops_nil ?_
    refine Xg.at_seq ?_
    refine Xg.at_draw [] [(4, [0, 1, 2, 3, 4, 5, 6, 7, 8, 9, 10, 11], Xg.CellIs (b) (((2 : Nat))) ((iv lo))), (9, [0, 1, 2, 3, 4, 5, 6, 7, 8, 9], Xg.CellIs (b) (((1 : Nat))) ((uv pk)))] (by kernel_rfl) ?_
    refine Xg.any_pure ((pv b 0)) 0 (by kernel_rfl) rfl (by kernel_rfl) (by kernel_rfl) (by kernel_rfl) (by kernel_rfl) rfl (fun _ => by kernel_rfl) ?_
    refine Xg.any_pure ((pv b 0)) 1 (by kernel_rfl) rfl (by kernel_rfl) (by kernel_rfl) (by kernel_rfl) (by kernel_rfl) rfl (fun _ => by kernel_rfl) ?_
    refine Xg.any_pure ((pv b 0)) 2 (by kernel_rfl) rfl (by kernel_rfl) (by kernel_rfl) (by kernel_rfl) (by kernel_rfl) rfl (fun _ => by kernel_rfl) ?_
    refine Xg.any_pure ((pv b 2)) 3 (by kernel_rfl) rfl (by kernel_rfl) (by kernel_rfl) (by kernel_rfl) (by kernel_rfl) rfl (fun _ => by kernel_rfl) ?_
    refine Xg.any_reads (iv lo) 4 0 (by kernel_rfl) rfl (by kernel_rfl) (by kernel_rfl) (by kernel_rfl) (by kernel_rfl) rfl rfl (by kernel_rfl) (Xg.cell_now (b := b) (off := ((2 : Nat))) 0 rfl (by kernel_rfl)) (fun _ h => Xg.run_load (by kernel_rfl) (by kernel_rfl) h) ?_
    refine Xg.any_pure ((pv b 0)) 5 (by kernel_rfl) rfl (by kernel_rfl) (by kernel_rfl) (by kernel_rfl) (by kernel_rfl) rfl (fun _ => by kernel_rfl) ?_
    refine Xg.any_pure ((pv b 0)) 6 (by kernel_rfl) rfl (by kernel_rfl) (by kernel_rfl) (by kernel_rfl) (by kernel_rfl) rfl (fun _ => by kernel_rfl) ?_
    refine Xg.any_pure ((pv b 0)) 7 (by kernel_rfl) rfl (by kernel_rfl) (by kernel_rfl) (by kernel_rfl) (by kernel_rfl) rfl (fun _ => by kernel_rfl) ?_
    refine Xg.any_pure ((pv b 1)) 8 (by kernel_rfl) rfl (by kernel_rfl) (by kernel_rfl) (by kernel_rfl) (by kernel_rfl) rfl (fun _ => by kernel_rfl) ?_
    refine Xg.any_reads (uv pk) 9 1 (by kernel_rfl) rfl (by kernel_rfl) (by kernel_rfl) (by kernel_rfl) (by kernel_rfl) rfl rfl (by kernel_rfl) (Xg.cell_now (b := b) (off := ((1 : Nat))) 0 rfl (by kernel_rfl)) (fun _ h => Xg.run_load (by kernel_rfl) (by kernel_rfl) h) ?_
    refine Xg.any_int .i64 (IntKind.wrap .i64 (pk)) 10 (by kernel_rfl) rfl (by kernel_rfl) (by kernel_rfl) (by kernel_rfl) (by kernel_rfl) rfl (fun _ => by kernel_rfl) (Xg.wrap_i64_in (by omega)) ?_
    refine Xg.any_int .i64 (IntKind.wrap .i64 (((32 : Int) * pk))) 11 (by kernel_rfl) rfl (by kernel_rfl) (by kernel_rfl) (by kernel_rfl) (by kernel_rfl) rfl (fun _ => by kernel_rfl) (Xg.wrap_i64_in (by omega)) ?_
    refine Xg.any_int .i64 (IntKind.wrap .i64 ((lo + (32 : Int) * pk))) 12 (by kernel_rfl) rfl (by kernel_rfl) (by kernel_rfl) (by kernel_rfl) (by kernel_rfl) rfl (fun _ => by kernel_rfl) (Xg.wrap_i64_in (by omega)) ?_
    refine Xg.any_pure ((iv (lo + (32 : Int) * pk))) 13 (by kernel_rfl) rfl (by kernel_rfl) (by kernel_rfl) (by kernel_rfl) (by kernel_rfl) rfl (fun _ => by kernel_rfl) ?_
    refine Xg.any_nil (by kernel_rfl) ?_
    refine Xg.at_ret_ps (v := (iv (lo + (32 : Int) * pk))) [0] [MR1 b (Rg.mk on lo hi pk md)] Go.Proofs.Tryd.func54 (fun _ => by kernel_rfl) (by kernel_rfl) (by kernel_rfl) ?_
    exact ⟨by kernel_rfl, by kernel_rfl⟩)
theorem ram1_d (b : Nat) (r : Rg) (hr : r.Ok) : Does Tryd.prog 56 [.pointer (some ⟨b, 0, none⟩)] [MR1 b r] (Ret (.tuple #[.int .i64 (if r.md = 1 then r.pk else 0), .bool (decide (r.on = 1))]) [MR1 b r]) := by
  obtain ⟨on, lo, hi, pk, md⟩ := r
  obtain ⟨h1, h2, h3, h4, h5⟩ := hr
  dsimp only at h1 h2 h3 h4 h5 ⊢
  by_cases h : md = 1
  · rw [if_pos h]
    (focus
      refine Xg.spec_of Go.Proofs.Tryd.func56 rfl Go.Proofs.Tryd.ntmps56 fun g F => ?_)
    (focus
      refine Xg.at_seq ?_
      refine Xg.at_region ?_
      refine Xg.ops_op (by kernel_rfl) (Xg.opx_pure ((iv 0)) rfl (fun _ => by kernel_rfl) ?_)
      refine Xg.ops_op (by kernel_rfl) (Xg.opx_pure ((Value.bool false)) rfl (fun _ => by kernel_rfl) ?_)
      refine Xg.ops_nil ?_
      refine Xg.at_seq ?_
      refine Xg.at_seq ?_
      refine Xg.at_region ?_
      refine Xg.ops_op (by kernel_rfl) (Xg.opx_pure ((pv b 0)) rfl (fun _ => by kernel_rfl) ?_)
      refine Xg.ops_op (by kernel_rfl) (Xg.opx_pure ((pv b 0)) rfl (fun _ => by kernel_rfl) ?_)
      refine Xg.ops_op (by kernel_rfl) (Xg.opx_pure ((pv b 3)) rfl (fun _ => by kernel_rfl) ?_)
      refine Xg.ops_op (by kernel_rfl) (Xg.opx_load (b := b) (off := ((3 : Nat))) 0 (uv md) rfl (by kernel_rfl) (by kernel_rfl) (by kernel_rfl) ?_)
      refine Xg.ops_op (by kernel_rfl) (Xg.opx_pure (.bool (decide ((md : Int) = ((1 : Int))))) rfl (fun _ => by kernel_rfl) ?_)
      refine Xg.ops_nil ?_
      refine Xg.at_true (t := decide ((md = (1 : Int)))) (by kernel_rfl) (decide_eq_true (by omega)) ?_
      refine Xg.at_seq ?_
      refine Xg.at_draw [] [(4, [0, 1, 2, 3, 4, 6, 7, 8, 9, 10, 11], Xg.CellIs (b) (((1 : Nat))) ((uv pk))), (10, [0, 1, 2, 3, 4, 5, 6, 7, 8, 9, 10, 12], Xg.CellIs (b) (((0 : Nat))) ((uv on)))] (by kernel_rfl) ?_
      refine Xg.any_pure ((pv b 0)) 0 (by kernel_rfl) rfl (by kernel_rfl) (by kernel_rfl) (by kernel_rfl) (by kernel_rfl) rfl (fun _ => by kernel_rfl) ?_
      refine Xg.any_pure ((pv b 0)) 1 (by kernel_rfl) rfl (by kernel_rfl) (by kernel_rfl) (by kernel_rfl) (by kernel_rfl) rfl (fun _ => by kernel_rfl) ?_
      refine Xg.any_pure ((pv b 0)) 2 (by kernel_rfl) rfl (by kernel_rfl) (by kernel_rfl) (by kernel_rfl) (by kernel_rfl) rfl (fun _ => by kernel_rfl) ?_
      refine Xg.any_pure ((pv b 1)) 3 (by kernel_rfl) rfl (by kernel_rfl) (by kernel_rfl) (by kernel_rfl) (by kernel_rfl) rfl (fun _ => by kernel_rfl) ?_
      refine Xg.any_reads (uv pk) 4 0 (by kernel_rfl) rfl (by kernel_rfl) (by kernel_rfl) (by kernel_rfl) (by kernel_rfl) rfl rfl (by kernel_rfl) (Xg.cell_now (b := b) (off := ((1 : Nat))) 0 rfl (by kernel_rfl)) (fun _ h => Xg.run_load (by kernel_rfl) (by kernel_rfl) h) ?_
      refine Xg.any_int .i64 (IntKind.wrap .i64 (pk)) 5 (by kernel_rfl) rfl (by kernel_rfl) (by kernel_rfl) (by kernel_rfl) (by kernel_rfl) rfl (fun _ => by kernel_rfl) (Xg.wrap_i64_in (by omega)) ?_
      refine Xg.any_pure ((pv b 0)) 6 (by kernel_rfl) rfl (by kernel_rfl) (by kernel_rfl) (by kernel_rfl) (by kernel_rfl) rfl (fun _ => by kernel_rfl) ?_
      refine Xg.any_pure ((pv b 0)) 7 (by kernel_rfl) rfl (by kernel_rfl) (by kernel_rfl) (by kernel_rfl) (by kernel_rfl) rfl (fun _ => by kernel_rfl) ?_
      refine Xg.any_pure ((pv b 0)) 8 (by kernel_rfl) rfl (by kernel_rfl) (by kernel_rfl) (by kernel_rfl) (by kernel_rfl) rfl (fun _ => by kernel_rfl) ?_
      refine Xg.any_pure ((pv b 0)) 9 (by kernel_rfl) rfl (by kernel_rfl) (by kernel_rfl) (by kernel_rfl) (by kernel_rfl) rfl (fun _ => by kernel_rfl) ?_
      refine Xg.any_reads (uv on) 10 1 (by kernel_rfl) rfl (by kernel_rfl) (by kernel_rfl) (by kernel_rfl) (by kernel_rfl) rfl rfl (by kernel_rfl) (Xg.cell_now (b := b) (off := ((0 : Nat))) 0 rfl (by kernel_rfl)) (fun _ h => Xg.run_load (by kernel_rfl) (by kernel_rfl) h) ?_
      refine Xg.any_pure (.bool (decide ((on : Int) = ((1 : Int))))) 11 (by kernel_rfl) rfl (by kernel_rfl) (by kernel_rfl) (by kernel_rfl) (by kernel_rfl) rfl (fun _ => by kernel_rfl) ?_
      refine Xg.any_pure ((iv pk)) 12 (by kernel_rfl) rfl (by kernel_rfl) (by kernel_rfl) (by kernel_rfl) (by kernel_rfl) rfl (fun _ => by kernel_rfl) ?_
      refine Xg.any_pure ((Value.bool (decide (on = (1 : Int))))) 13 (by kernel_rfl) rfl (by kernel_rfl) (by kernel_rfl) (by kernel_rfl) (by kernel_rfl) rfl (fun _ => by kernel_rfl) ?_
      refine Xg.any_nil (by kernel_rfl) ?_
      refine Xg.at_ret_ps (v := (Value.tuple #[iv pk, Value.bool (decide (on = (1 : Int)))])) [0] [MR1 b (Rg.mk on lo hi pk md)] Go.Proofs.Tryd.func56 (fun _ => by kernel_rfl) (by kernel_rfl) (by kernel_rfl) ?_
      exact ⟨by kernel_rfl, by kernel_rfl⟩)
  · rw [if_neg h]
    (focus
      refine Xg.spec_of Go.Proofs.Tryd.func56 rfl Go.Proofs.Tryd.ntmps56 fun g F => ?_)
    (focus
      refine Xg.at_seq ?_
      refine Xg.at_region ?_
      refine Xg.ops_op (by kernel_rfl) (Xg.opx_pure ((iv 0)) rfl (fun _ => by kernel_rfl) ?_)
      refine Xg.ops_op (by kernel_rfl) (Xg.opx_pure ((Value.bool false)) rfl (fun _ => by kernel_rfl) ?_)
      refine Xg.ops_nil ?_
      refine Xg.at_seq ?_
      refine Xg.at_seq ?_
      refine Xg.at_region ?_
      refine Xg.ops_op (by kernel_rfl) (Xg.opx_pure ((pv b 0)) rfl (fun _ => by kernel_rfl) ?_)
      refine Xg.ops_op (by kernel_rfl) (Xg.opx_pure ((pv b 0)) rfl (fun _ => by kernel_rfl) ?_)
      refine Xg.ops_op (by kernel_rfl) (Xg.opx_pure ((pv b 3)) rfl (fun _ => by kernel_rfl) ?_)
      refine Xg.ops_op (by kernel_rfl) (Xg.opx_load (b := b) (off := ((3 : Nat))) 0 (uv md) rfl (by kernel_rfl) (by kernel_rfl) (by kernel_rfl) ?_)
      refine Xg.ops_op (by kernel_rfl) (Xg.opx_pure (.bool (decide ((md : Int) = ((1 : Int))))) rfl (fun _ => by kernel_rfl) ?_)
      refine Xg.ops_nil ?_
      refine Xg.at_false (t := decide ((md = (1 : Int)))) (by kernel_rfl) (decide_eq_false (by omega)) ?_
      refine Xg.at_skip ?_
      refine Xg.at_seq ?_
      refine Xg.at_draw [] [(4, [0, 1, 2, 3, 4, 6], Xg.CellIs (b) (((0 : Nat))) ((uv on)))] (by kernel_rfl) ?_
      refine Xg.any_pure ((pv b 0)) 0 (by kernel_rfl) rfl (by kernel_rfl) (by kernel_rfl) (by kernel_rfl) (by kernel_rfl) rfl (fun _ => by kernel_rfl) ?_
      refine Xg.any_pure ((pv b 0)) 1 (by kernel_rfl) rfl (by kernel_rfl) (by kernel_rfl) (by kernel_rfl) (by kernel_rfl) rfl (fun _ => by kernel_rfl) ?_
      refine Xg.any_pure ((pv b 0)) 2 (by kernel_rfl) rfl (by kernel_rfl) (by kernel_rfl) (by kernel_rfl) (by kernel_rfl) rfl (fun _ => by kernel_rfl) ?_
      refine Xg.any_pure ((pv b 0)) 3 (by kernel_rfl) rfl (by kernel_rfl) (by kernel_rfl) (by kernel_rfl) (by kernel_rfl) rfl (fun _ => by kernel_rfl) ?_
      refine Xg.any_reads (uv on) 4 0 (by kernel_rfl) rfl (by kernel_rfl) (by kernel_rfl) (by kernel_rfl) (by kernel_rfl) rfl rfl (by kernel_rfl) (Xg.cell_now (b := b) (off := ((0 : Nat))) 0 rfl (by kernel_rfl)) (fun _ h => Xg.run_load (by kernel_rfl) (by kernel_rfl) h) ?_
      refine Xg.any_pure (.bool (decide ((on : Int) = ((1 : Int))))) 5 (by kernel_rfl) rfl (by kernel_rfl) (by kernel_rfl) (by kernel_rfl) (by kernel_rfl) rfl (fun _ => by kernel_rfl) ?_
      refine Xg.any_pure ((iv 0)) 6 (by kernel_rfl) rfl (by kernel_rfl) (by kernel_rfl) (by kernel_rfl) (by kernel_rfl) rfl (fun _ => by kernel_rfl) ?_
      refine Xg.any_pure ((Value.bool (decide (on = (1 : Int))))) 7 (by kernel_rfl) rfl (by kernel_rfl) (by kernel_rfl) (by kernel_rfl) (by kernel_rfl) rfl (fun _ => by kernel_rfl) ?_
      refine Xg.any_nil (by kernel_rfl) ?_
      refine Xg.at_ret_ps (v := (Value.tuple #[iv 0, Value.bool (decide (on = (1 : Int)))])) [0] [MR1 b (Rg.mk on lo hi pk md)] Go.Proofs.Tryd.func56 (fun _ => by kernel_rfl) (by kernel_rfl) (by kernel_rfl) ?_
      exact ⟨by kernel_rfl, by kernel_rfl⟩)
theorem low2_d (b : Nat) (r : Rg) : Does Tryd.prog 60 [.pointer (some ⟨b, 0, none⟩)] [MR2 b r] (Ret (.int .i64 0) [MR2 b r]) := by
  obtain ⟨on, lo, hi, pk, md⟩ := r
  (focus
    refine Xg.spec_of Go.Proofs.Tryd.func60 rfl Go.Proofs.Tryd.ntmps60 fun g F => ?_)
  (focus
    refine Xg.at_seq ?_
    refine Xg.at_region ?_
    refine Xg.ops_op (by kernel_rfl) (Xg.opx_pure ((iv 0)) rfl (fun _ => by kernel_rfl) ?_)
    refine Xg.ops_nil ?_
    refine Xg.at_seq ?_
    refine Xg.at_region ?_
    refine Xg.ops_op (by kernel_rfl) (Xg.opx_pure ((iv 0)) rfl (fun _ => by kernel_rfl) ?_)
    refine Xg.ops_nil ?_
    refine Xg.at_ret_ps (v := (iv 0)) [0] [MR2 b (Rg.mk on lo hi pk md)] Go.Proofs.Tryd.func60 (fun _ => by kernel_rfl) (by kernel_rfl) (by kernel_rfl) ?_
    exact ⟨by kernel_rfl, by kernel_rfl⟩)
theorem high2_d (b : Nat) (r : Rg) (hr : r.Ok) : Does Tryd.prog 59 [.pointer (some ⟨b, 0, none⟩)] [MR2 b r] (Ret (.int .i64 (r.lo)) [MR2 b r]) := by
  obtain ⟨on, lo, hi, pk, md⟩ := r
  obtain ⟨h1, h2, h3, h4, h5⟩ := hr
  dsimp only at h1 h2 h3 h4 h5 ⊢
  (focus
    refine Xg.spec_of Go.Proofs.Tryd.func59 rfl Go.Proofs.Tryd.ntmps59 fun g F => ?_)
  (focus
    refine Xg.at_seq ?_
    refine Xg.at_region ?_
    refine Xg.ops_op (by kernel_rfl) (Xg.opx_pure ((iv 0)) rfl (fun _ => by kernel_rfl) ?_)
    refine Xg.ops_nil ?_
    refine Xg.at_seq ?_
    refine Xg.at_region ?_
    refine Xg.ops_op (by kernel_rfl) (Xg.opx_pure ((pv b 0)) rfl (fun _ => by kernel_rfl) ?_)
    refine Xg.ops_op (by kernel_rfl) (Xg.opx_pure ((pv b 0)) rfl (fun _ => by kernel_rfl) ?_)
    refine Xg.ops_op (by kernel_rfl) (Xg.opx_pure ((pv b 2)) rfl (fun _ => by kernel_rfl) ?_)
    refine Xg.ops_op (by kernel_rfl) (Xg.opx_load (b := b) (off := ((2 : Nat))) 0 (iv lo) rfl (by kernel_rfl) (by kernel_rfl) (by kernel_rfl) ?_)
    refine Xg.ops_op (by kernel_rfl) (Xg.opx_pure ((iv lo)) rfl (fun _ => by kernel_rfl) ?_)
    refine Xg.ops_nil ?_
    refine Xg.at_ret_ps (v := (iv lo)) [0] [MR2 b (Rg.mk on lo hi pk md)] Go.Proofs.Tryd.func59 (fun _ => by kernel_rfl) (by kernel_rfl) (by kernel_rfl) ?_
    exact ⟨by kernel_rfl, by kernel_rfl⟩)
theorem ram2_d (b : Nat) (r : Rg) (hr : r.Ok) : Does Tryd.prog 61 [.pointer (some ⟨b, 0, none⟩)] [MR2 b r] (Ret (.tuple #[.int .i64 (r.pk), .bool (decide (r.on = 1))]) [MR2 b r]) := by
  obtain ⟨on, lo, hi, pk, md⟩ := r
  obtain ⟨h1, h2, h3, h4, h5⟩ := hr
  dsimp only at h1 h2 h3 h4 h5 ⊢
  (focus
    refine Xg.spec_of Go.Proofs.Tryd.func61 rfl Go.Proofs.Tryd.ntmps61 fun g F => ?_)
  (focus
    refine Xg.at_seq ?_
    refine Xg.at_region ?_
    refine Xg.ops_op (by kernel_rfl) (Xg.opx_pure ((iv 0)) rfl (fun _ => by kernel_rfl) ?_)
    refine Xg.ops_op (by kernel_rfl) (Xg.opx_pure ((Value.bool false)) rfl (fun _ => by kernel_rfl) ?_)
    refine Xg.ops_nil ?_
    refine Xg.at_seq ?_
    refine Xg.at_draw [] [(3, [0, 1, 2, 3, 5, 6, 7, 8, 9], Xg.CellIs (b) (((1 : Nat))) ((uv pk))), (8, [0, 1, 2, 3, 4, 5, 6, 7, 8, 10], Xg.CellIs (b) (((0 : Nat))) ((uv on)))] (by kernel_rfl) ?_
    refine Xg.any_pure ((pv b 0)) 0 (by kernel_rfl) rfl (by kernel_rfl) (by kernel_rfl) (by kernel_rfl) (by kernel_rfl) rfl (fun _ => by kernel_rfl) ?_
    refine Xg.any_pure ((pv b 0)) 1 (by kernel_rfl) rfl (by kernel_rfl) (by kernel_rfl) (by kernel_rfl) (by kernel_rfl) rfl (fun _ => by kernel_rfl) ?_
    refine Xg.any_pure ((pv b 1)) 2 (by kernel_rfl) rfl (by kernel_rfl) (by kernel_rfl) (by kernel_rfl) (by kernel_rfl) rfl (fun _ => by kernel_rfl) ?_
    refine Xg.any_reads (uv pk) 3 0 (by kernel_rfl) rfl (by kernel_rfl) (by kernel_rfl) (by kernel_rfl) (by kernel_rfl) rfl rfl (by kernel_rfl) (Xg.cell_now (b := b) (off := ((1 : Nat))) 0 rfl (by kernel_rfl)) (fun _ h => Xg.run_load (by kernel_rfl) (by kernel_rfl) h) ?_
    refine Xg.any_int .i64 (IntKind.wrap .i64 (pk)) 4 (by kernel_rfl) rfl (by kernel_rfl) (by kernel_rfl) (by kernel_rfl) (by kernel_rfl) rfl (fun _ => by kernel_rfl) (Xg.wrap_i64_in (by omega)) ?_
    refine Xg.any_pure ((pv b 0)) 5 (by kernel_rfl) rfl (by kernel_rfl) (by kernel_rfl) (by kernel_rfl) (by kernel_rfl) rfl (fun _ => by kernel_rfl) ?_
    refine Xg.any_pure ((pv b 0)) 6 (by kernel_rfl) rfl (by kernel_rfl) (by kernel_rfl) (by kernel_rfl) (by kernel_rfl) rfl (fun _ => by kernel_rfl) ?_
    refine Xg.any_pure ((pv b 0)) 7 (by kernel_rfl) rfl (by kernel_rfl) (by kernel_rfl) (by kernel_rfl) (by kernel_rfl) rfl (fun _ => by kernel_rfl) ?_
    refine Xg.any_reads (uv on) 8 1 (by kernel_rfl) rfl (by kernel_rfl) (by kernel_rfl) (by kernel_rfl) (by kernel_rfl) rfl rfl (by kernel_rfl) (Xg.cell_now (b := b) (off := ((0 : Nat))) 0 rfl (by kernel_rfl)) (fun _ h => Xg.run_load (by kernel_rfl) (by kernel_rfl) h) ?_
    refine Xg.any_pure (.bool (decide ((on : Int) = ((1 : Int))))) 9 (by kernel_rfl) rfl (by kernel_rfl) (by kernel_rfl) (by kernel_rfl) (by kernel_rfl) rfl (fun _ => by kernel_rfl) ?_
    refine Xg.any_pure ((iv pk)) 10 (by kernel_rfl) rfl (by kernel_rfl) (by kernel_rfl) (by kernel_rfl) (by kernel_rfl) rfl (fun _ => by kernel_rfl) ?_
    refine Xg.any_pure ((Value.bool (decide (on = (1 : Int))))) 11 (by kernel_rfl) rfl (by kernel_rfl) (by kernel_rfl) (by kernel_rfl) (by kernel_rfl) rfl (fun _ => by kernel_rfl) ?_
    refine Xg.any_nil (by kernel_rfl) ?_
    refine Xg.at_ret_ps (v := (Value.tuple #[iv pk, Value.bool (decide (on = (1 : Int)))])) [0] [MR2 b (Rg.mk on lo hi pk md)] Go.Proofs.Tryd.func61 (fun _ => by kernel_rfl) (by kernel_rfl) (by kernel_rfl) ?_
    exact ⟨by kernel_rfl, by kernel_rfl⟩)
theorem low3_d (b : Nat) (r : Rg) : Does Tryd.prog 60 [.pointer (some ⟨b, 0, none⟩)] [MR3 b r] (Ret (.int .i64 0) [MR3 b r]) := by
  obtain ⟨on, lo, hi, pk, md⟩ := r
  (focus
    refine Xg.spec_of Go.Proofs.Tryd.func60 rfl Go.Proofs.Tryd.ntmps60 fun g F => ?_)
  (focus
    refine Xg.at_seq ?_
    refine Xg.at_region ?_
    refine Xg.ops_op (by kernel_rfl) (Xg.opx_pure ((iv 0)) rfl (fun _ => by kernel_rfl) ?_)
    refine Xg.ops_nil ?_
    refine Xg.at_seq ?_
    refine Xg.at_region ?_
    refine Xg.ops_op (by kernel_rfl) (Xg.opx_pure ((iv 0)) rfl (fun _ => by kernel_rfl) ?_)
    refine Xg.ops_nil ?_
    refine Xg.at_ret_ps (v := (iv 0)) [0] [MR3 b (Rg.mk on lo hi pk md)] Go.Proofs.Tryd.func60 (fun _ => by kernel_rfl) (by kernel_rfl) (by kernel_rfl) ?_
    exact ⟨by kernel_rfl, by kernel_rfl⟩)
theorem high3_d (b : Nat) (r : Rg) (hr : r.Ok) : Does Tryd.prog 59 [.pointer (some ⟨b, 0, none⟩)] [MR3 b r] (Ret (.int .i64 (r.lo)) [MR3 b r]) := by
  obtain ⟨on, lo, hi, pk, md⟩ := r
  obtain ⟨h1, h2, h3, h4, h5⟩ := hr
  dsimp only at h1 h2 h3 h4 h5 ⊢
  (focus
    refine Xg.spec_of Go.Proofs.Tryd.func59 rfl Go.Proofs.Tryd.ntmps59 fun g F => ?_)
  (focus
    refine Xg.at_seq ?_
    refine Xg.at_region ?_
    refine Xg.ops_op (by kernel_rfl) (Xg.opx_pure ((iv 0)) rfl (fun _ => by kernel_rfl) ?_)
    refine Xg.ops_nil ?_
    refine Xg.at_seq ?_
    refine Xg.at_region ?_
    refine Xg.ops_op (by kernel_rfl) (Xg.opx_pure ((pv b 0)) rfl (fun _ => by kernel_rfl) ?_)
    refine Xg.ops_op (by kernel_rfl) (Xg.opx_pure ((pv b 0)) rfl (fun _ => by kernel_rfl) ?_)
    refine Xg.ops_op (by kernel_rfl) (Xg.opx_pure ((pv b 2)) rfl (fun _ => by kernel_rfl) ?_)
    refine Xg.ops_op (by kernel_rfl) (Xg.opx_load (b := b) (off := ((2 : Nat))) 0 (iv lo) rfl (by kernel_rfl) (by kernel_rfl) (by kernel_rfl) ?_)
    refine Xg.ops_op (by kernel_rfl) (Xg.opx_pure ((iv lo)) rfl (fun _ => by kernel_rfl) ?_)
    refine Xg.ops_nil ?_
    refine Xg.at_ret_ps (v := (iv lo)) [0] [MR3 b (Rg.mk on lo hi pk md)] Go.Proofs.Tryd.func59 (fun _ => by kernel_rfl) (by kernel_rfl) (by kernel_rfl) ?_
    exact ⟨by kernel_rfl, by kernel_rfl⟩)
theorem ram3_d (b : Nat) (r : Rg) (hr : r.Ok) : Does Tryd.prog 63 [.pointer (some ⟨b, 0, none⟩)] [MR3 b r] (Ret (.tuple #[.int .i64 (r.pk), .bool (decide (r.on = 1 ∧ r.pk < 4))]) [MR3 b r]) := by
  obtain ⟨on, lo, hi, pk, md⟩ := r
  obtain ⟨h1, h2, h3, h4, h5⟩ := hr
  dsimp only at h1 h2 h3 h4 h5 ⊢
  by_cases h : on = 1
  · by_cases h4 : pk < 4
    · rw [show decide (on = 1 ∧ pk < 4) = true by simp [h, h4]]
      (focus
        refine Xg.spec_of Go.Proofs.Tryd.func63 rfl Go.Proofs.Tryd.ntmps63 fun g F => ?_)
      (focus
        refine Xg.at_seq ?_
        refine Xg.at_region ?_
        refine Xg.ops_op (by kernel_rfl) (Xg.opx_pure ((iv 0)) rfl (fun _ => by kernel_rfl) ?_)
        refine Xg.ops_op (by kernel_rfl) (Xg.opx_pure ((Value.bool false)) rfl (fun _ => by kernel_rfl) ?_)
        refine Xg.ops_nil ?_
        refine Xg.at_seq ?_
        refine Xg.at_draw [] [(4, [0, 1, 2, 3, 4, 6, 7, 8, 9, 10, 11, 12, 13, 14, 15, 16, 17, 18, 19], Xg.CellIs (b) (((1 : Nat))) ((uv pk))), (10, [0, 1, 2, 3, 4, 5, 6, 7, 8, 9, 10], Xg.CellIs (b) (((0 : Nat))) ((uv on))), (17, [0, 1, 2, 3, 4, 5, 6, 7, 8, 9, 10, 11, 12, 13, 14, 15, 16, 17, 20], Xg.CellIs (b) (((1 : Nat))) ((uv pk)))] (by kernel_rfl) ?_
        refine Xg.any_pure ((pv b 0)) 0 (by kernel_rfl) rfl (by kernel_rfl) (by kernel_rfl) (by kernel_rfl) (by kernel_rfl) rfl (fun _ => by kernel_rfl) ?_
        refine Xg.any_pure ((pv b 0)) 1 (by kernel_rfl) rfl (by kernel_rfl) (by kernel_rfl) (by kernel_rfl) (by kernel_rfl) rfl (fun _ => by kernel_rfl) ?_
        refine Xg.any_pure ((pv b 0)) 2 (by kernel_rfl) rfl (by kernel_rfl) (by kernel_rfl) (by kernel_rfl) (by kernel_rfl) rfl (fun _ => by kernel_rfl) ?_
        refine Xg.any_pure ((pv b 1)) 3 (by kernel_rfl) rfl (by kernel_rfl) (by kernel_rfl) (by kernel_rfl) (by kernel_rfl) rfl (fun _ => by kernel_rfl) ?_
        refine Xg.any_reads (uv pk) 4 0 (by kernel_rfl) rfl (by kernel_rfl) (by kernel_rfl) (by kernel_rfl) (by kernel_rfl) rfl rfl (by kernel_rfl) (Xg.cell_now (b := b) (off := ((1 : Nat))) 0 rfl (by kernel_rfl)) (fun _ h => Xg.run_load (by kernel_rfl) (by kernel_rfl) h) ?_
        refine Xg.any_int .i64 (IntKind.wrap .i64 (pk)) 5 (by kernel_rfl) rfl (by kernel_rfl) (by kernel_rfl) (by kernel_rfl) (by kernel_rfl) rfl (fun _ => by kernel_rfl) (Xg.wrap_i64_in (by omega)) ?_
        refine Xg.any_pure ((pv b 0)) 6 (by kernel_rfl) rfl (by kernel_rfl) (by kernel_rfl) (by kernel_rfl) (by kernel_rfl) rfl (fun _ => by kernel_rfl) ?_
        refine Xg.any_pure ((pv b 0)) 7 (by kernel_rfl) rfl (by kernel_rfl) (by kernel_rfl) (by kernel_rfl) (by kernel_rfl) rfl (fun _ => by kernel_rfl) ?_
        refine Xg.any_pure ((pv b 0)) 8 (by kernel_rfl) rfl (by kernel_rfl) (by kernel_rfl) (by kernel_rfl) (by kernel_rfl) rfl (fun _ => by kernel_rfl) ?_
        refine Xg.any_pure ((pv b 0)) 9 (by kernel_rfl) rfl (by kernel_rfl) (by kernel_rfl) (by kernel_rfl) (by kernel_rfl) rfl (fun _ => by kernel_rfl) ?_
        refine Xg.any_reads (uv on) 10 1 (by kernel_rfl) rfl (by kernel_rfl) (by kernel_rfl) (by kernel_rfl) (by kernel_rfl) rfl rfl (by kernel_rfl) (Xg.cell_now (b := b) (off := ((0 : Nat))) 0 rfl (by kernel_rfl)) (fun _ h => Xg.run_load (by kernel_rfl) (by kernel_rfl) h) ?_
        refine Xg.any_pure (.bool (decide ((on : Int) = ((1 : Int))))) 11 (by kernel_rfl) rfl (by kernel_rfl) (by kernel_rfl) (by kernel_rfl) (by kernel_rfl) rfl (fun _ => by kernel_rfl) ?_
        refine Xg.any_pure ((Value.bool (decide (on = (1 : Int))))) 12 (by kernel_rfl) rfl (by kernel_rfl) (by kernel_rfl) (by kernel_rfl) (by kernel_rfl) rfl (fun _ => by kernel_rfl) ?_
        refine Xg.any_flag (j := 16) (c := (decide (on = (1 : Int)))) (by kernel_rfl) (fun _ => ?_) (fun xh1 => absurd (of_decide_eq_false xh1) (by omega))
        refine Xg.any_pure ((pv b 0)) 13 (by kernel_rfl) rfl (by kernel_rfl) (by kernel_rfl) (by kernel_rfl) (by kernel_rfl) rfl (fun _ => by kernel_rfl) ?_
        refine Xg.any_pure ((pv b 0)) 14 (by kernel_rfl) rfl (by kernel_rfl) (by kernel_rfl) (by kernel_rfl) (by kernel_rfl) rfl (fun _ => by kernel_rfl) ?_
        refine Xg.any_pure ((pv b 0)) 15 (by kernel_rfl) rfl (by kernel_rfl) (by kernel_rfl) (by kernel_rfl) (by kernel_rfl) rfl (fun _ => by kernel_rfl) ?_
        refine Xg.any_pure ((pv b 1)) 16 (by kernel_rfl) rfl (by kernel_rfl) (by kernel_rfl) (by kernel_rfl) (by kernel_rfl) rfl (fun _ => by kernel_rfl) ?_
        refine Xg.any_reads (uv pk) 17 2 (by kernel_rfl) rfl (by kernel_rfl) (by kernel_rfl) (by kernel_rfl) (by kernel_rfl) rfl rfl (by kernel_rfl) (Xg.cell_now (b := b) (off := ((1 : Nat))) 0 rfl (by kernel_rfl)) (fun _ h => Xg.run_load (by kernel_rfl) (by kernel_rfl) h) ?_
        refine Xg.any_pure (.bool (decide ((pk : Int) < ((4 : Int))))) 18 (by kernel_rfl) rfl (by kernel_rfl) (by kernel_rfl) (by kernel_rfl) (by kernel_rfl) rfl (fun _ => by kernel_rfl) ?_
        refine Xg.any_flag (j := 22) (c := (decide (pk < (4 : Int)))) (by kernel_rfl) (fun _ => ?_) (fun xh1 => absurd (of_decide_eq_false xh1) (by omega))
        refine Xg.any_pure ((Value.bool true)) 19 (by kernel_rfl) rfl (by kernel_rfl) (by kernel_rfl) (by kernel_rfl) (by kernel_rfl) rfl (fun _ => by kernel_rfl) ?_
        refine Xg.any_pure ((iv pk)) 20 (by kernel_rfl) rfl (by kernel_rfl) (by kernel_rfl) (by kernel_rfl) (by kernel_rfl) rfl (fun _ => by kernel_rfl) ?_
        refine Xg.any_pure ((Value.bool true)) 21 (by kernel_rfl) rfl (by kernel_rfl) (by kernel_rfl) (by kernel_rfl) (by kernel_rfl) rfl (fun _ => by kernel_rfl) ?_
        refine Xg.any_nil (by kernel_rfl) ?_
        refine Xg.at_ret_ps (v := (Value.tuple #[iv pk, Value.bool true])) [0] [MR3 b (Rg.mk on lo hi pk md)] Go.Proofs.Tryd.func63 (fun _ => by kernel_rfl) (by kernel_rfl) (by kernel_rfl) ?_
        exact ⟨by kernel_rfl, by kernel_rfl⟩)
    · rw [show decide (on = 1 ∧ pk < 4) = false by simp [h4]]
      (focus
        refine Xg.spec_of Go.Proofs.Tryd.func63 rfl Go.Proofs.Tryd.ntmps63 fun g F => ?_)
      (focus
        refine Xg.at_seq ?_
        refine Xg.at_region ?_
        refine Xg.ops_op (by kernel_rfl) (Xg.opx_pure ((iv 0)) rfl (fun _ => by kernel_rfl) ?_)
        refine Xg.ops_op (by kernel_rfl) (Xg.opx_pure ((Value.bool false)) rfl (fun _ => by kernel_rfl) ?_)
        refine Xg.ops_nil ?_
        refine Xg.at_seq ?_
        refine Xg.at_draw [] [(4, [0, 1, 2, 3, 4, 6, 7, 8, 9, 10, 11, 12, 13, 14, 15, 16, 17, 18, 19], Xg.CellIs (b) (((1 : Nat))) ((uv pk))), (10, [0, 1, 2, 3, 4, 5, 6, 7, 8, 9, 10], Xg.CellIs (b) (((0 : Nat))) ((uv on))), (17, [0, 1, 2, 3, 4, 5, 6, 7, 8, 9, 10, 11, 12, 13, 14, 15, 16, 17, 20], Xg.CellIs (b) (((1 : Nat))) ((uv pk)))] (by kernel_rfl) ?_
        refine Xg.any_pure ((pv b 0)) 0 (by kernel_rfl) rfl (by kernel_rfl) (by kernel_rfl) (by kernel_rfl) (by kernel_rfl) rfl (fun _ => by kernel_rfl) ?_
        refine Xg.any_pure ((pv b 0)) 1 (by kernel_rfl) rfl (by kernel_rfl) (by kernel_rfl) (by kernel_rfl) (by kernel_rfl) rfl (fun _ => by kernel_rfl) ?_
        refine Xg.any_pure ((pv b 0)) 2 (by kernel_rfl) rfl (by kernel_rfl) (by kernel_rfl) (by kernel_rfl) (by kernel_rfl) rfl (fun _ => by kernel_rfl) ?_
        refine Xg.any_pure ((pv b 1)) 3 (by kernel_rfl) rfl (by kernel_rfl) (by kernel_rfl) (by kernel_rfl) (by kernel_rfl) rfl (fun _ => by kernel_rfl) ?_
        refine Xg.any_reads (uv pk) 4 0 (by kernel_rfl) rfl (by kernel_rfl) (by kernel_rfl) (by kernel_rfl) (by kernel_rfl) rfl rfl (by kernel_rfl) (Xg.cell_now (b := b) (off := ((1 : Nat))) 0 rfl (by kernel_rfl)) (fun _ h => Xg.run_load (by kernel_rfl) (by kernel_rfl) h) ?_
        refine Xg.any_int .i64 (IntKind.wrap .i64 (pk)) 5 (by kernel_rfl) rfl (by kernel_rfl) (by kernel_rfl) (by kernel_rfl) (by kernel_rfl) rfl (fun _ => by kernel_rfl) (Xg.wrap_i64_in (by omega)) ?_
        refine Xg.any_pure ((pv b 0)) 6 (by kernel_rfl) rfl (by kernel_rfl) (by kernel_rfl) (by kernel_rfl) (by kernel_rfl) rfl (fun _ => by kernel_rfl) ?_
        refine Xg.any_pure ((pv b 0)) 7 (by kernel_rfl) rfl (by kernel_rfl) (by kernel_rfl) (by kernel_rfl) (by kernel_rfl) rfl (fun _ => by kernel_rfl) ?_
        refine Xg.any_pure ((pv b 0)) 8 (by kernel_rfl) rfl (by kernel_rfl) (by kernel_rfl) (by kernel_rfl) (by kernel_rfl) rfl (fun _ => by kernel_rfl) ?_
        refine Xg.any_pure ((pv b 0)) 9 (by kernel_rfl) rfl (by kernel_rfl) (by kernel_rfl) (by kernel_rfl) (by kernel_rfl) rfl (fun _ => by kernel_rfl) ?_
        refine Xg.any_reads (uv on) 10 1 (by kernel_rfl) rfl (by kernel_rfl) (by kernel_rfl) (by kernel_rfl) (by kernel_rfl) rfl rfl (by kernel_rfl) (Xg.cell_now (b := b) (off := ((0 : Nat))) 0 rfl (by kernel_rfl)) (fun _ h => Xg.run_load (by kernel_rfl) (by kernel_rfl) h) ?_
        refine Xg.any_pure (.bool (decide ((on : Int) = ((1 : Int))))) 11 (by kernel_rfl) rfl (by kernel_rfl) (by kernel_rfl) (by kernel_rfl) (by kernel_rfl) rfl (fun _ => by kernel_rfl) ?_
        refine Xg.any_pure ((Value.bool (decide (on = (1 : Int))))) 12 (by kernel_rfl) rfl (by kernel_rfl) (by kernel_rfl) (by kernel_rfl) (by kernel_rfl) rfl (fun _ => by kernel_rfl) ?_
        refine Xg.any_flag (j := 16) (c := (decide (on = (1 : Int)))) (by kernel_rfl) (fun _ => ?_) (fun xh1 => absurd (of_decide_eq_false xh1) (by omega))
        refine Xg.any_pure ((pv b 0)) 13 (by kernel_rfl) rfl (by kernel_rfl) (by kernel_rfl) (by kernel_rfl) (by kernel_rfl) rfl (fun _ => by kernel_rfl) ?_
        refine Xg.any_pure ((pv b 0)) 14 (by kernel_rfl) rfl (by kernel_rfl) (by kernel_rfl) (by kernel_rfl) (by kernel_rfl) rfl (fun _ => by kernel_rfl) ?_
        refine Xg.any_pure ((pv b 0)) 15 (by kernel_rfl) rfl (by kernel_rfl) (by kernel_rfl) (by kernel_rfl) (by kernel_rfl) rfl (fun _ => by kernel_rfl) ?_
        refine Xg.any_pure ((pv b 1)) 16 (by kernel_rfl) rfl (by kernel_rfl) (by kernel_rfl) (by kernel_rfl) (by kernel_rfl) rfl (fun _ => by kernel_rfl) ?_
        refine Xg.any_reads (uv pk) 17 2 (by kernel_rfl) rfl (by kernel_rfl) (by kernel_rfl) (by kernel_rfl) (by kernel_rfl) rfl rfl (by kernel_rfl) (Xg.cell_now (b := b) (off := ((1 : Nat))) 0 rfl (by kernel_rfl)) (fun _ h => Xg.run_load (by kernel_rfl) (by kernel_rfl) h) ?_
        refine Xg.any_pure (.bool (decide ((pk : Int) < ((4 : Int))))) 18 (by kernel_rfl) rfl (by kernel_rfl) (by kernel_rfl) (by kernel_rfl) (by kernel_rfl) rfl (fun _ => by kernel_rfl) ?_
        refine Xg.any_flag (j := 22) (c := (decide (pk < (4 : Int)))) (by kernel_rfl) (fun xh1 => absurd (of_decide_eq_true xh1) (by omega)) (fun _ => ?_)
        refine Xg.any_pure ((Value.bool false)) 19 (by kernel_rfl) rfl (by kernel_rfl) (by kernel_rfl) (by kernel_rfl) (by kernel_rfl) rfl (fun _ => by kernel_rfl) ?_
        refine Xg.any_pure ((iv pk)) 20 (by kernel_rfl) rfl (by kernel_rfl) (by kernel_rfl) (by kernel_rfl) (by kernel_rfl) rfl (fun _ => by kernel_rfl) ?_
        refine Xg.any_pure ((Value.bool false)) 21 (by kernel_rfl) rfl (by kernel_rfl) (by kernel_rfl) (by kernel_rfl) (by kernel_rfl) rfl (fun _ => by kernel_rfl) ?_
        refine Xg.any_nil (by kernel_rfl) ?_
        refine Xg.at_ret_ps (v := (Value.tuple #[iv pk, Value.bool false])) [0] [MR3 b (Rg.mk on lo hi pk md)] Go.Proofs.Tryd.func63 (fun _ => by kernel_rfl) (by kernel_rfl) (by kernel_rfl) ?_
        exact ⟨by kernel_rfl, by kernel_rfl⟩)
  · rw [show decide (on = 1 ∧ pk < 4) = false by simp [h]]
    (focus
      refine Xg.spec_of Go.Proofs.Tryd.func63 rfl Go.Proofs.Tryd.ntmps63 fun g F => ?_)
    (focus
      refine Xg.at_seq ?_
      refine Xg.at_region ?_
      refine Xg.ops_op (by kernel_rfl) (Xg.opx_pure ((iv 0)) rfl (fun _ => by kernel_rfl) ?_)
      refine Xg.ops_op (by kernel_rfl) (Xg.opx_pure ((Value.bool false)) rfl (fun _ => by kernel_rfl) ?_)
      refine Xg.ops_nil ?_
      refine Xg.at_seq ?_
      refine Xg.at_draw [17] [(4, [0, 1, 2, 3, 4, 6, 7, 8, 9, 10, 11, 12, 13, 14, 15, 16, 17, 18, 19], Xg.CellIs (b) (((1 : Nat))) ((uv pk))), (10, [0, 1, 2, 3, 4, 5, 6, 7, 8, 9, 10], Xg.CellIs (b) (((0 : Nat))) ((uv on)))] (by kernel_rfl) ?_
      refine Xg.any_pure ((pv b 0)) 0 (by kernel_rfl) rfl (by kernel_rfl) (by kernel_rfl) (by kernel_rfl) (by kernel_rfl) rfl (fun _ => by kernel_rfl) ?_
      refine Xg.any_pure ((pv b 0)) 1 (by kernel_rfl) rfl (by kernel_rfl) (by kernel_rfl) (by kernel_rfl) (by kernel_rfl) rfl (fun _ => by kernel_rfl) ?_
      refine Xg.any_pure ((pv b 0)) 2 (by kernel_rfl) rfl (by kernel_rfl) (by kernel_rfl) (by kernel_rfl) (by kernel_rfl) rfl (fun _ => by kernel_rfl) ?_
      refine Xg.any_pure ((pv b 1)) 3 (by kernel_rfl) rfl (by kernel_rfl) (by kernel_rfl) (by kernel_rfl) (by kernel_rfl) rfl (fun _ => by kernel_rfl) ?_
      refine Xg.any_reads (uv pk) 4 0 (by kernel_rfl) rfl (by kernel_rfl) (by kernel_rfl) (by kernel_rfl) (by kernel_rfl) rfl rfl (by kernel_rfl) (Xg.cell_now (b := b) (off := ((1 : Nat))) 0 rfl (by kernel_rfl)) (fun _ h => Xg.run_load (by kernel_rfl) (by kernel_rfl) h) ?_
      refine Xg.any_int .i64 (IntKind.wrap .i64 (pk)) 5 (by kernel_rfl) rfl (by kernel_rfl) (by kernel_rfl) (by kernel_rfl) (by kernel_rfl) rfl (fun _ => by kernel_rfl) (Xg.wrap_i64_in (by omega)) ?_
      refine Xg.any_pure ((pv b 0)) 6 (by kernel_rfl) rfl (by kernel_rfl) (by kernel_rfl) (by kernel_rfl) (by kernel_rfl) rfl (fun _ => by kernel_rfl) ?_
      refine Xg.any_pure ((pv b 0)) 7 (by kernel_rfl) rfl (by kernel_rfl) (by kernel_rfl) (by kernel_rfl) (by kernel_rfl) rfl (fun _ => by kernel_rfl) ?_
      refine Xg.any_pure ((pv b 0)) 8 (by kernel_rfl) rfl (by kernel_rfl) (by kernel_rfl) (by kernel_rfl) (by kernel_rfl) rfl (fun _ => by kernel_rfl) ?_
      refine Xg.any_pure ((pv b 0)) 9 (by kernel_rfl) rfl (by kernel_rfl) (by kernel_rfl) (by kernel_rfl) (by kernel_rfl) rfl (fun _ => by kernel_rfl) ?_
      refine Xg.any_reads (uv on) 10 1 (by kernel_rfl) rfl (by kernel_rfl) (by kernel_rfl) (by kernel_rfl) (by kernel_rfl) rfl rfl (by kernel_rfl) (Xg.cell_now (b := b) (off := ((0 : Nat))) 0 rfl (by kernel_rfl)) (fun _ h => Xg.run_load (by kernel_rfl) (by kernel_rfl) h) ?_
      refine Xg.any_pure (.bool (decide ((on : Int) = ((1 : Int))))) 11 (by kernel_rfl) rfl (by kernel_rfl) (by kernel_rfl) (by kernel_rfl) (by kernel_rfl) rfl (fun _ => by kernel_rfl) ?_
      refine Xg.any_pure ((Value.bool (decide (on = (1 : Int))))) 12 (by kernel_rfl) rfl (by kernel_rfl) (by kernel_rfl) (by kernel_rfl) (by kernel_rfl) rfl (fun _ => by kernel_rfl) ?_
      refine Xg.any_flag (j := 16) (c := (decide (on = (1 : Int)))) (by kernel_rfl) (fun xh1 => absurd (of_decide_eq_true xh1) (by omega)) (fun _ => ?_)
      refine Xg.any_skip 13 (by kernel_rfl) rfl (by kernel_rfl) (by kernel_rfl) (by kernel_rfl) (by kernel_rfl) ?_
      refine Xg.any_skip 14 (by kernel_rfl) rfl (by kernel_rfl) (by kernel_rfl) (by kernel_rfl) (by kernel_rfl) ?_
      refine Xg.any_skip 15 (by kernel_rfl) rfl (by kernel_rfl) (by kernel_rfl) (by kernel_rfl) (by kernel_rfl) ?_
      refine Xg.any_skip 16 (by kernel_rfl) rfl (by kernel_rfl) (by kernel_rfl) (by kernel_rfl) (by kernel_rfl) ?_
      refine Xg.any_pure ((iv pk)) 20 (by kernel_rfl) rfl (by kernel_rfl) (by kernel_rfl) (by kernel_rfl) (by kernel_rfl) rfl (fun _ => by kernel_rfl) ?_
      refine Xg.any_each [17] (by kernel_rfl) rfl ⟨?_, trivial⟩
      refine Xg.comes_skip rfl (by kernel_rfl) (by kernel_rfl) ?_
      refine Xg.acts (Xg.owes_cell 0 rfl (by kernel_rfl) (Xg.owes_skip (by kernel_rfl) Xg.owes_nil)) ?_
      refine Xg.any_skip 18 (by kernel_rfl) rfl (by kernel_rfl) (by kernel_rfl) (by kernel_rfl) (by kernel_rfl) ?_
      refine Xg.any_pure ((Value.bool false)) 19 (by kernel_rfl) rfl (by kernel_rfl) (by kernel_rfl) (by kernel_rfl) (by kernel_rfl) rfl (fun _ => by kernel_rfl) ?_
      refine Xg.any_pure ((Value.bool false)) 21 (by kernel_rfl) rfl (by kernel_rfl) (by kernel_rfl) (by kernel_rfl) (by kernel_rfl) rfl (fun _ => by kernel_rfl) ?_
      refine Xg.any_nil (by kernel_rfl) ?_
      refine Xg.at_ret_ps (v := (Value.tuple #[iv pk, Value.bool false])) [0] [MR3 b (Rg.mk on lo hi pk md)] Go.Proofs.Tryd.func63 (fun _ => by kernel_rfl) (by kernel_rfl) (by kernel_rfl) ?_
      exact ⟨by kernel_rfl, by kernel_rfl⟩)
theorem low5_d (b : Nat) (r : Rg) : Does Tryd.prog 60 [.pointer (some ⟨b, 0, none⟩)] [MR5 b r] (Ret (.int .i64 0) [MR5 b r]) := by
  obtain ⟨on, lo, hi, pk, md⟩ := r
  (focus
    refine Xg.spec_of Go.Proofs.Tryd.func60 rfl Go.Proofs.Tryd.ntmps60 fun g F => ?_)
  (focus
    refine Xg.at_seq ?_
    refine Xg.at_region ?_
    refine Xg.ops_op (by kernel_rfl) (Xg.opx_pure ((iv 0)) rfl (fun _ => by kernel_rfl) ?_)
    refine Xg.ops_nil ?_
    refine Xg.at_seq ?_
    refine Xg.at_region ?_
    refine Xg.ops_op (by kernel_rfl) (Xg.opx_pure ((iv 0)) rfl (fun _ => by kernel_rfl) ?_)
    refine Xg.ops_nil ?_
    refine Xg.at_ret_ps (v := (iv 0)) [0] [MR5 b (Rg.mk on lo hi pk md)] Go.Proofs.Tryd.func60 (fun _ => by kernel_rfl) (by kernel_rfl) (by kernel_rfl) ?_
    exact ⟨by kernel_rfl, by kernel_rfl⟩)
theorem high5_d (b : Nat) (r : Rg) (hr : r.Ok) : Does Tryd.prog 65 [.pointer (some ⟨b, 0, none⟩)] [MR5 b r] (Ret (.int .i64 (r.lo + 256 * r.hi)) [MR5 b r]) := by
  obtain ⟨on, lo, hi, pk, md⟩ := r
  obtain ⟨h1, h2, h3, h4, h5⟩ := hr
  dsimp only at h1 h2 h3 h4 h5 ⊢
  (focus
    refine Xg.spec_of Go.Proofs.Tryd.func65 rfl Go.Proofs.Tryd.ntmps65 fun g F => ?_)
  (focus
    refine Xg.at_seq ?_
    refine Xg.at_region ?_
    refine Xg.ops_op (by kernel_rfl) (Xg.opx_pure ((iv 0)) rfl (fun _ => by kernel_rfl) ?_)
    refine Xg.ops_nil ?_
    refine Xg.at_seq ?_
    refine Xg.at_draw [] [(4, [0, 1, 2, 3, 4, 5, 6, 7, 8, 9, 10], Xg.CellIs (b) (((2 : Nat))) ((iv lo))), (8, [0, 1, 2, 3, 4, 5, 6, 7, 8], Xg.CellIs (b) (((3 : Nat))) ((uv hi)))] (by kernel_rfl) ?_
    refine Xg.any_pure ((pv b 0)) 0 (by kernel_rfl) rfl (by kernel_rfl) (by kernel_rfl) (by kernel_rfl) (by kernel_rfl) rfl (fun _ => by kernel_rfl) ?_
    refine Xg.any_pure ((pv b 0)) 1 (by kernel_rfl) rfl (by kernel_rfl) (by kernel_rfl) (by kernel_rfl) (by kernel_rfl) rfl (fun _ => by kernel_rfl) ?_
    refine Xg.any_pure ((pv b 0)) 2 (by kernel_rfl) rfl (by kernel_rfl) (by kernel_rfl) (by kernel_rfl) (by kernel_rfl) rfl (fun _ => by kernel_rfl) ?_
    refine Xg.any_pure ((pv b 2)) 3 (by kernel_rfl) rfl (by kernel_rfl) (by kernel_rfl) (by kernel_rfl) (by kernel_rfl) rfl (fun _ => by kernel_rfl) ?_
    refine Xg.any_reads (iv lo) 4 0 (by kernel_rfl) rfl (by kernel_rfl) (by kernel_rfl) (by kernel_rfl) (by kernel_rfl) rfl rfl (by kernel_rfl) (Xg.cell_now (b := b) (off := ((2 : Nat))) 0 rfl (by kernel_rfl)) (fun _ h => Xg.run_load (by kernel_rfl) (by kernel_rfl) h) ?_
    refine Xg.any_pure ((pv b 0)) 5 (by kernel_rfl) rfl (by kernel_rfl) (by kernel_rfl) (by kernel_rfl) (by kernel_rfl) rfl (fun _ => by kernel_rfl) ?_
    refine Xg.any_pure ((pv b 0)) 6 (by kernel_rfl) rfl (by kernel_rfl) (by kernel_rfl) (by kernel_rfl) (by kernel_rfl) rfl (fun _ => by kernel_rfl) ?_
    refine Xg.any_pure ((pv b 3)) 7 (by kernel_rfl) rfl (by kernel_rfl) (by kernel_rfl) (by kernel_rfl) (by kernel_rfl) rfl (fun _ => by kernel_rfl) ?_
    refine Xg.any_reads (uv hi) 8 1 (by kernel_rfl) rfl (by kernel_rfl) (by kernel_rfl) (by kernel_rfl) (by kernel_rfl) rfl rfl (by kernel_rfl) (Xg.cell_now (b := b) (off := ((3 : Nat))) 0 rfl (by kernel_rfl)) (fun _ h => Xg.run_load (by kernel_rfl) (by kernel_rfl) h) ?_
    refine Xg.any_int .i64 (IntKind.wrap .i64 (hi)) 9 (by kernel_rfl) rfl (by kernel_rfl) (by kernel_rfl) (by kernel_rfl) (by kernel_rfl) rfl (fun _ => by kernel_rfl) (Xg.wrap_i64_in (by omega)) ?_
    refine Xg.any_int .i64 (IntKind.wrap .i64 (((256 : Int) * hi))) 10 (by kernel_rfl) rfl (by kernel_rfl) (by kernel_rfl) (by kernel_rfl) (by kernel_rfl) rfl (fun _ => by kernel_rfl) (Xg.wrap_i64_in (by omega)) ?_
    refine Xg.any_int .i64 (IntKind.wrap .i64 ((lo + (256 : Int) * hi))) 11 (by kernel_rfl) rfl (by kernel_rfl) (by kernel_rfl) (by kernel_rfl) (by kernel_rfl) rfl (fun _ => by kernel_rfl) (Xg.wrap_i64_in (by omega)) ?_
    refine Xg.any_pure ((iv (lo + (256 : Int) * hi))) 12 (by kernel_rfl) rfl (by kernel_rfl) (by kernel_rfl) (by kernel_rfl) (by kernel_rfl) rfl (fun _ => by kernel_rfl) ?_
    refine Xg.any_nil (by kernel_rfl) ?_
    refine Xg.at_ret_ps (v := (iv (lo + (256 : Int) * hi))) [0] [MR5 b (Rg.mk on lo hi pk md)] Go.Proofs.Tryd.func65 (fun _ => by kernel_rfl) (by kernel_rfl) (by kernel_rfl) ?_
    exact ⟨by kernel_rfl, by kernel_rfl⟩)
theorem ram5_d (b : Nat) (r : Rg) (hr : r.Ok) : Does Tryd.prog 61 [.pointer (some ⟨b, 0, none⟩)] [MR5 b r] (Ret (.tuple #[.int .i64 (r.pk), .bool (decide (r.on = 1))]) [MR5 b r]) := by
  obtain ⟨on, lo, hi, pk, md⟩ := r
  obtain ⟨h1, h2, h3, h4, h5⟩ := hr
  dsimp only at h1 h2 h3 h4 h5 ⊢
  (focus
    refine Xg.spec_of Go.Proofs.Tryd.func61 rfl Go.Proofs.Tryd.ntmps61 fun g F => ?_)
  (focus
    refine Xg.at_seq ?_
    refine Xg.at_region ?_
    refine Xg.ops_op (by kernel_rfl) (Xg.opx_pure ((iv 0)) rfl (fun _ => by kernel_rfl) ?_)
    refine Xg.ops_op (by kernel_rfl) (Xg.opx_pure ((Value.bool false)) rfl (fun _ => by kernel_rfl) ?_)
    refine Xg.ops_nil ?_
    refine Xg.at_seq ?_
    refine Xg.at_draw [] [(3, [0, 1, 2, 3, 5, 6, 7, 8, 9], Xg.CellIs (b) (((1 : Nat))) ((uv pk))), (8, [0, 1, 2, 3, 4, 5, 6, 7, 8, 10], Xg.CellIs (b) (((0 : Nat))) ((uv on)))] (by kernel_rfl) ?_
    refine Xg.any_pure ((pv b 0)) 0 (by kernel_rfl) rfl (by kernel_rfl) (by kernel_rfl) (by kernel_rfl) (by kernel_rfl) rfl (fun _ => by kernel_rfl) ?_
    refine Xg.any_pure ((pv b 0)) 1 (by kernel_rfl) rfl (by kernel_rfl) (by kernel_rfl) (by kernel_rfl) (by kernel_rfl) rfl (fun _ => by kernel_rfl) ?_
    refine Xg.any_pure ((pv b 1)) 2 (by kernel_rfl) rfl (by kernel_rfl) (by kernel_rfl) (by kernel_rfl) (by kernel_rfl) rfl (fun _ => by kernel_rfl) ?_
    refine Xg.any_reads (uv pk) 3 0 (by kernel_rfl) rfl (by kernel_rfl) (by kernel_rfl) (by kernel_rfl) (by kernel_rfl) rfl rfl (by kernel_rfl) (Xg.cell_now (b := b) (off := ((1 : Nat))) 0 rfl (by kernel_rfl)) (fun _ h => Xg.run_load (by kernel_rfl) (by kernel_rfl) h) ?_
    refine Xg.any_int .i64 (IntKind.wrap .i64 (pk)) 4 (by kernel_rfl) rfl (by kernel_rfl) (by kernel_rfl) (by kernel_rfl) (by kernel_rfl) rfl (fun _ => by kernel_rfl) (Xg.wrap_i64_in (by omega)) ?_
    refine Xg.any_pure ((pv b 0)) 5 (by kernel_rfl) rfl (by kernel_rfl) (by kernel_rfl) (by kernel_rfl) (by kernel_rfl) rfl (fun _ => by kernel_rfl) ?_
    refine Xg.any_pure ((pv b 0)) 6 (by kernel_rfl) rfl (by kernel_rfl) (by kernel_rfl) (by kernel_rfl) (by kernel_rfl) rfl (fun _ => by kernel_rfl) ?_
    refine Xg.any_pure ((pv b 0)) 7 (by kernel_rfl) rfl (by kernel_rfl) (by kernel_rfl) (by kernel_rfl) (by kernel_rfl) rfl (fun _ => by kernel_rfl) ?_
    refine Xg.any_reads (uv on) 8 1 (by kernel_rfl) rfl (by kernel_rfl) (by kernel_rfl) (by kernel_rfl) (by kernel_rfl) rfl rfl (by kernel_rfl) (Xg.cell_now (b := b) (off := ((0 : Nat))) 0 rfl (by kernel_rfl)) (fun _ h => Xg.run_load (by kernel_rfl) (by kernel_rfl) h) ?_
    refine Xg.any_pure (.bool (decide ((on : Int) = ((1 : Int))))) 9 (by kernel_rfl) rfl (by kernel_rfl) (by kernel_rfl) (by kernel_rfl) (by kernel_rfl) rfl (fun _ => by kernel_rfl) ?_
    refine Xg.any_pure ((iv pk)) 10 (by kernel_rfl) rfl (by kernel_rfl) (by kernel_rfl) (by kernel_rfl) (by kernel_rfl) rfl (fun _ => by kernel_rfl) ?_
    refine Xg.any_pure ((Value.bool (decide (on = (1 : Int))))) 11 (by kernel_rfl) rfl (by kernel_rfl) (by kernel_rfl) (by kernel_rfl) (by kernel_rfl) rfl (fun _ => by kernel_rfl) ?_
    refine Xg.any_nil (by kernel_rfl) ?_
    refine Xg.at_ret_ps (v := (Value.tuple #[iv pk, Value.bool (decide (on = (1 : Int)))])) [0] [MR5 b (Rg.mk on lo hi pk md)] Go.Proofs.Tryd.func61 (fun _ => by kernel_rfl) (by kernel_rfl) (by kernel_rfl) ?_
    exact ⟨by kernel_rfl, by kernel_rfl⟩)
theorem band_lo (v m q : Int) (hv : 0 ≤ v ∧ v ≤ 255) (h : m = 1 ∧ q = 2 ∨ m = 3 ∧ q = 4 ∨ m = 7 ∧ q = 8 ∨ m = 15 ∧ q = 16 ∨ m = 31 ∧ q = 32 ∨ m = 127 ∧ q = 128) : Xg.band .u8 v m = v % q := by
  have key : ∀ n : Fin 256, ∀ p ∈ [((1 : Int), (2 : Int)), (3, 4), (7, 8), (15, 16), (31, 32), (127, 128)], Xg.band .u8 ((n.val : Nat) : Int) p.1 = ((n.val : Nat) : Int) % p.2 := by decide +kernel
  have hm : (m, q) ∈ [((1 : Int), (2 : Int)), (3, 4), (7, 8), (15, 16), (31, 32), (127, 128)] := by
    rcases h with ⟨rfl, rfl⟩ | ⟨rfl, rfl⟩ | ⟨rfl, rfl⟩ | ⟨rfl, rfl⟩ | ⟨rfl, rfl⟩ | ⟨rfl, rfl⟩ <;> simp
  have := key ⟨v.toNat, by omega⟩ (m, q) hm
  simpa [Int.toNat_of_nonneg hv.1] using this
theorem choose1_d (b : Nat) (on pk lo md v : Int) (hv : 0 ≤ v ∧ v ≤ 255) : Does Tryd.prog 53 [.pointer (some ⟨b, 0, none⟩), .int .u8 v] [row b 74 [.int .u8 on, .int .u8 pk, .int .i64 lo, .int .u8 md]] (Ret (.tuple #[]) [row b 74 [.int .u8 on, .int .u8 pk, .int .i64 (if v > 1 then v else 1), .int .u8 md]]) := by
  (focus
    refine Xg.spec_of Go.Proofs.Tryd.func53 rfl Go.Proofs.Tryd.ntmps53 fun g F => ?_)
  (focus
    refine Xg.at_region ?_
    refine Xg.ops_op (by kernel_rfl) (Xg.opx_pure ((pv b 0)) rfl (fun _ => by kernel_rfl) ?_)
    refine Xg.ops_op (by kernel_rfl) (Xg.opx_pure ((uv v)) rfl (fun _ => by kernel_rfl) ?_)
    refine Xg.ops_op (by kernel_rfl) (Xg.opx_int .i64 (IntKind.wrap .i64 (v)) rfl (fun _ => by kernel_rfl) (Xg.wrap_i64_in (by omega)) ?_)
    refine Xg.ops_op (by kernel_rfl) (Xg.opx_pure (.int .i64 (if ((v) : Int) > (((1 : Int))) then (v) else (((1 : Int))))) rfl (fun _ => by kernel_rfl) ?_)
    refine Xg.ops_op (by kernel_rfl) (Xg.opx_pure ((pv b 0)) rfl (fun _ => by kernel_rfl) ?_)
    refine Xg.ops_op (by kernel_rfl) (Xg.opx_pure ((pv b 2)) rfl (fun _ => by kernel_rfl) ?_)
    refine Xg.ops_op (by kernel_rfl) (Xg.opx_store1 (off := 2) 0 (iv (if v > (1 : Int) then v else (1 : Int))) (by kernel_rfl) rfl (by kernel_rfl) (by kernel_rfl) (by kernel_rfl) (Nat.le_of_ble_eq_true (by kernel_rfl)) ?_)
    refine Xg.ops_nil ?_
    refine Xg.at_end_ps (v := (tu)) [0] [row b (74 : TypeId) [uv on, uv pk, iv (if v > (1 : Int) then v else (1 : Int)), uv md]] Go.Proofs.Tryd.func53 (fun _ => by kernel_rfl) (by kernel_rfl) (by kernel_rfl) ?_
    exact ⟨by kernel_rfl, by kernel_rfl⟩)
theorem opens1_d (b : Nat) (on pk lo md v : Int) (hv : 0 ≤ v ∧ v ≤ 255) : Does Tryd.prog 58 [.pointer (some ⟨b, 0, none⟩), .int .u8 v] [row b 74 [.int .u8 on, .int .u8 pk, .int .i64 lo, .int .u8 md]] (Ret (.tuple #[]) [row b 74 [.int .u8 (if v % 16 = 10 then 1 else 0), .int .u8 pk, .int .i64 lo, .int .u8 md]]) := by
  have hb := band_lo v 15 16 hv (Or.inr (Or.inr (Or.inr (Or.inl ⟨rfl, rfl⟩))))
  by_cases h : v % 16 = 10
  · rw [if_pos h]
    (focus
      refine Xg.spec_of Go.Proofs.Tryd.func58 rfl Go.Proofs.Tryd.ntmps58 fun g F => ?_)
    (focus
      refine Xg.at_seq ?_
      refine Xg.at_region ?_
      refine Xg.ops_op (by kernel_rfl) (Xg.opx_pure ((pv b 0)) rfl (fun _ => by kernel_rfl) ?_)
      refine Xg.ops_op (by kernel_rfl) (Xg.opx_pure ((pv b 0)) rfl (fun _ => by kernel_rfl) ?_)
      refine Xg.ops_op (by kernel_rfl) (Xg.opx_pure ((pv b 0)) rfl (fun _ => by kernel_rfl) ?_)
      refine Xg.ops_op (by kernel_rfl) (Xg.opx_store1 (off := 0) 0 (uv 0) (by kernel_rfl) rfl (by kernel_rfl) (by kernel_rfl) (by kernel_rfl) (Nat.le_of_ble_eq_true (by kernel_rfl)) ?_)
      refine Xg.ops_nil ?_
      refine Xg.at_seq ?_
      refine Xg.at_region ?_
      refine Xg.ops_op (by kernel_rfl) (Xg.opx_pure ((uv v)) rfl (fun _ => by kernel_rfl) ?_)
      refine Xg.ops_op (by kernel_rfl) (Xg.opx_pure (.int .u8 (Xg.band .u8 (v) (((15 : Int))))) rfl (fun _ => by kernel_rfl) ?_)
      refine Xg.ops_op (by kernel_rfl) (Xg.opx_pure (.bool (decide (((band IntKind.u8 v (15 : Int)) : Int) = ((10 : Int))))) rfl (fun _ => by kernel_rfl) ?_)
      refine Xg.ops_nil ?_
      refine Xg.at_true (t := decide ((band IntKind.u8 v (15 : Int) = (10 : Int)))) (by kernel_rfl) (decide_eq_true (by omega)) ?_
      refine Xg.at_region ?_
      refine Xg.ops_op (by kernel_rfl) (Xg.opx_pure ((pv b 0)) rfl (fun _ => by kernel_rfl) ?_)
      refine Xg.ops_op (by kernel_rfl) (Xg.opx_pure ((pv b 0)) rfl (fun _ => by kernel_rfl) ?_)
      refine Xg.ops_op (by kernel_rfl) (Xg.opx_pure ((pv b 0)) rfl (fun _ => by kernel_rfl) ?_)
      refine Xg.ops_op (by kernel_rfl) (Xg.opx_store1 (off := 0) 0 (uv 1) (by kernel_rfl) rfl (by kernel_rfl) (by kernel_rfl) (by kernel_rfl) (Nat.le_of_ble_eq_true (by kernel_rfl)) ?_)
      refine Xg.ops_nil ?_
      refine Xg.at_end_ps (v := (tu)) [0] [row b (74 : TypeId) [uv 1, uv pk, iv lo, uv md]] Go.Proofs.Tryd.func58 (fun _ => by kernel_rfl) (by kernel_rfl) (by kernel_rfl) ?_
      exact ⟨by kernel_rfl, by kernel_rfl⟩)
  · rw [if_neg h]
    (focus
      refine Xg.spec_of Go.Proofs.Tryd.func58 rfl Go.Proofs.Tryd.ntmps58 fun g F => ?_)
    (focus
      refine Xg.at_seq ?_
      refine Xg.at_region ?_
      refine Xg.ops_op (by kernel_rfl) (Xg.opx_pure ((pv b 0)) rfl (fun _ => by kernel_rfl) ?_)
      refine Xg.ops_op (by kernel_rfl) (Xg.opx_pure ((pv b 0)) rfl (fun _ => by kernel_rfl) ?_)
      refine Xg.ops_op (by kernel_rfl) (Xg.opx_pure ((pv b 0)) rfl (fun _ => by kernel_rfl) ?_)
      refine Xg.ops_op (by kernel_rfl) (Xg.opx_store1 (off := 0) 0 (uv 0) (by kernel_rfl) rfl (by kernel_rfl) (by kernel_rfl) (by kernel_rfl) (Nat.le_of_ble_eq_true (by kernel_rfl)) ?_)
      refine Xg.ops_nil ?_
      refine Xg.at_seq ?_
      refine Xg.at_region ?_
      refine Xg.ops_op (by kernel_rfl) (Xg.opx_pure ((uv v)) rfl (fun _ => by kernel_rfl) ?_)
      refine Xg.ops_op (by kernel_rfl) (Xg.opx_pure (.int .u8 (Xg.band .u8 (v) (((15 : Int))))) rfl (fun _ => by kernel_rfl) ?_)
      refine Xg.ops_op (by kernel_rfl) (Xg.opx_pure (.bool (decide (((band IntKind.u8 v (15 : Int)) : Int) = ((10 : Int))))) rfl (fun _ => by kernel_rfl) ?_)
      refine Xg.ops_nil ?_
      refine Xg.at_false (t := decide ((band IntKind.u8 v (15 : Int) = (10 : Int)))) (by kernel_rfl) (decide_eq_false (by omega)) ?_
      refine Xg.at_skip ?_
      refine Xg.at_end_ps (v := (tu)) [0] [row b (74 : TypeId) [uv 0, uv pk, iv lo, uv md]] Go.Proofs.Tryd.func58 (fun _ => by kernel_rfl) (by kernel_rfl) (by kernel_rfl) ?_
      exact ⟨by kernel_rfl, by kernel_rfl⟩)
theorem choose2_d (b : Nat) (on pk lo md v : Int) (hv : 0 ≤ v ∧ v ≤ 255) : Does Tryd.prog 53 [.pointer (some ⟨b, 0, none⟩), .int .u8 v] [row b 77 [.int .u8 on, .int .u8 pk, .int .i64 lo]] (Ret (.tuple #[]) [row b 77 [.int .u8 on, .int .u8 pk, .int .i64 (if v > 1 then v else 1)]]) := by
  (focus
    refine Xg.spec_of Go.Proofs.Tryd.func53 rfl Go.Proofs.Tryd.ntmps53 fun g F => ?_)
  (focus
    refine Xg.at_region ?_
    refine Xg.ops_op (by kernel_rfl) (Xg.opx_pure ((pv b 0)) rfl (fun _ => by kernel_rfl) ?_)
    refine Xg.ops_op (by kernel_rfl) (Xg.opx_pure ((uv v)) rfl (fun _ => by kernel_rfl) ?_)
    refine Xg.ops_op (by kernel_rfl) (Xg.opx_int .i64 (IntKind.wrap .i64 (v)) rfl (fun _ => by kernel_rfl) (Xg.wrap_i64_in (by omega)) ?_)
    refine Xg.ops_op (by kernel_rfl) (Xg.opx_pure (.int .i64 (if ((v) : Int) > (((1 : Int))) then (v) else (((1 : Int))))) rfl (fun _ => by kernel_rfl) ?_)
    refine Xg.ops_op (by kernel_rfl) (Xg.opx_pure ((pv b 0)) rfl (fun _ => by kernel_rfl) ?_)
    refine Xg.ops_op (by kernel_rfl) (Xg.opx_pure ((pv b 2)) rfl (fun _ => by kernel_rfl) ?_)
    refine Xg.ops_op (by kernel_rfl) (Xg.opx_store1 (off := 2) 0 (iv (if v > (1 : Int) then v else (1 : Int))) (by kernel_rfl) rfl (by kernel_rfl) (by kernel_rfl) (by kernel_rfl) (Nat.le_of_ble_eq_true (by kernel_rfl)) ?_)
    refine Xg.ops_nil ?_
    refine Xg.at_end_ps (v := (tu)) [0] [row b (77 : TypeId) [uv on, uv pk, iv (if v > (1 : Int) then v else (1 : Int))]] Go.Proofs.Tryd.func53 (fun _ => by kernel_rfl) (by kernel_rfl) (by kernel_rfl) ?_
    exact ⟨by kernel_rfl, by kernel_rfl⟩)
theorem opens2_d (b : Nat) (on pk lo md v : Int) (hv : 0 ≤ v ∧ v ≤ 255) : Does Tryd.prog 58 [.pointer (some ⟨b, 0, none⟩), .int .u8 v] [row b 77 [.int .u8 on, .int .u8 pk, .int .i64 lo]] (Ret (.tuple #[]) [row b 77 [.int .u8 (if v % 16 = 10 then 1 else 0), .int .u8 pk, .int .i64 lo]]) := by
  have hb := band_lo v 15 16 hv (Or.inr (Or.inr (Or.inr (Or.inl ⟨rfl, rfl⟩))))
  by_cases h : v % 16 = 10
  · rw [if_pos h]
    (focus
      refine Xg.spec_of Go.Proofs.Tryd.func58 rfl Go.Proofs.Tryd.ntmps58 fun g F => ?_)
    (focus
      refine Xg.at_seq ?_
      refine Xg.at_region ?_
      refine Xg.ops_op (by kernel_rfl) (Xg.opx_pure ((pv b 0)) rfl (fun _ => by kernel_rfl) ?_)
      refine Xg.ops_op (by kernel_rfl) (Xg.opx_pure ((pv b 0)) rfl (fun _ => by kernel_rfl) ?_)
      refine Xg.ops_op (by kernel_rfl) (Xg.opx_pure ((pv b 0)) rfl (fun _ => by kernel_rfl) ?_)
      refine Xg.ops_op (by kernel_rfl) (Xg.opx_store1 (off := 0) 0 (uv 0) (by kernel_rfl) rfl (by kernel_rfl) (by kernel_rfl) (by kernel_rfl) (Nat.le_of_ble_eq_true (by kernel_rfl)) ?_)
      refine Xg.ops_nil ?_
      refine Xg.at_seq ?_
      refine Xg.at_region ?_
      refine Xg.ops_op (by kernel_rfl) (Xg.opx_pure ((uv v)) rfl (fun _ => by kernel_rfl) ?_)
      refine Xg.ops_op (by kernel_rfl) (Xg.opx_pure (.int .u8 (Xg.band .u8 (v) (((15 : Int))))) rfl (fun _ => by kernel_rfl) ?_)
      refine Xg.ops_op (by kernel_rfl) (Xg.opx_pure (.bool (decide (((band IntKind.u8 v (15 : Int)) : Int) = ((10 : Int))))) rfl (fun _ => by kernel_rfl) ?_)
      refine Xg.ops_nil ?_
      refine Xg.at_true (t := decide ((band IntKind.u8 v (15 : Int) = (10 : Int)))) (by kernel_rfl) (decide_eq_true (by omega)) ?_
      refine Xg.at_region ?_
      refine Xg.ops_op (by kernel_rfl) (Xg.opx_pure ((pv b 0)) rfl (fun _ => by kernel_rfl) ?_)
      refine Xg.ops_op (by kernel_rfl) (Xg.opx_pure ((pv b 0)) rfl (fun _ => by kernel_rfl) ?_)
      refine Xg.ops_op (by kernel_rfl) (Xg.opx_pure ((pv b 0)) rfl (fun _ => by kernel_rfl) ?_)
      refine Xg.ops_op (by kernel_rfl) (Xg.opx_store1 (off := 0) 0 (uv 1) (by kernel_rfl) rfl (by kernel_rfl) (by kernel_rfl) (by kernel_rfl) (Nat.le_of_ble_eq_true (by kernel_rfl)) ?_)
      refine Xg.ops_nil ?_
      refine Xg.at_end_ps (v := (tu)) [0] [row b (77 : TypeId) [uv 1, uv pk, iv lo]] Go.Proofs.Tryd.func58 (fun _ => by kernel_rfl) (by kernel_rfl) (by kernel_rfl) ?_
      exact ⟨by kernel_rfl, by kernel_rfl⟩)
  · rw [if_neg h]
    (focus
      refine Xg.spec_of Go.Proofs.Tryd.func58 rfl Go.Proofs.Tryd.ntmps58 fun g F => ?_)
    (focus
      refine Xg.at_seq ?_
      refine Xg.at_region ?_
      refine Xg.ops_op (by kernel_rfl) (Xg.opx_pure ((pv b 0)) rfl (fun _ => by kernel_rfl) ?_)
      refine Xg.ops_op (by kernel_rfl) (Xg.opx_pure ((pv b 0)) rfl (fun _ => by kernel_rfl) ?_)
      refine Xg.ops_op (by kernel_rfl) (Xg.opx_pure ((pv b 0)) rfl (fun _ => by kernel_rfl) ?_)
      refine Xg.ops_op (by kernel_rfl) (Xg.opx_store1 (off := 0) 0 (uv 0) (by kernel_rfl) rfl (by kernel_rfl) (by kernel_rfl) (by kernel_rfl) (Nat.le_of_ble_eq_true (by kernel_rfl)) ?_)
      refine Xg.ops_nil ?_
      refine Xg.at_seq ?_
      refine Xg.at_region ?_
      refine Xg.ops_op (by kernel_rfl) (Xg.opx_pure ((uv v)) rfl (fun _ => by kernel_rfl) ?_)
      refine Xg.ops_op (by kernel_rfl) (Xg.opx_pure (.int .u8 (Xg.band .u8 (v) (((15 : Int))))) rfl (fun _ => by kernel_rfl) ?_)
      refine Xg.ops_op (by kernel_rfl) (Xg.opx_pure (.bool (decide (((band IntKind.u8 v (15 : Int)) : Int) = ((10 : Int))))) rfl (fun _ => by kernel_rfl) ?_)
      refine Xg.ops_nil ?_
      refine Xg.at_false (t := decide ((band IntKind.u8 v (15 : Int) = (10 : Int)))) (by kernel_rfl) (decide_eq_false (by omega)) ?_
      refine Xg.at_skip ?_
      refine Xg.at_end_ps (v := (tu)) [0] [row b (77 : TypeId) [uv 0, uv pk, iv lo]] Go.Proofs.Tryd.func58 (fun _ => by kernel_rfl) (by kernel_rfl) (by kernel_rfl) ?_
      exact ⟨by kernel_rfl, by kernel_rfl⟩)
theorem choose3_d (b : Nat) (on pk lo md v : Int) (hv : 0 ≤ v ∧ v ≤ 255) : Does Tryd.prog 53 [.pointer (some ⟨b, 0, none⟩), .int .u8 v] [row b 79 [.int .u8 on, .int .u8 pk, .int .i64 lo]] (Ret (.tuple #[]) [row b 79 [.int .u8 on, .int .u8 pk, .int .i64 (if v > 1 then v else 1)]]) := by
  (focus
    refine Xg.spec_of Go.Proofs.Tryd.func53 rfl Go.Proofs.Tryd.ntmps53 fun g F => ?_)
  (focus
    refine Xg.at_region ?_
    refine Xg.ops_op (by kernel_rfl) (Xg.opx_pure ((pv b 0)) rfl (fun _ => by kernel_rfl) ?_)
    refine Xg.ops_op (by kernel_rfl) (Xg.opx_pure ((uv v)) rfl (fun _ => by kernel_rfl) ?_)
    refine Xg.ops_op (by kernel_rfl) (Xg.opx_int .i64 (IntKind.wrap .i64 (v)) rfl (fun _ => by kernel_rfl) (Xg.wrap_i64_in (by omega)) ?_)
    refine Xg.ops_op (by kernel_rfl) (Xg.opx_pure (.int .i64 (if ((v) : Int) > (((1 : Int))) then (v) else (((1 : Int))))) rfl (fun _ => by kernel_rfl) ?_)
    refine Xg.ops_op (by kernel_rfl) (Xg.opx_pure ((pv b 0)) rfl (fun _ => by kernel_rfl) ?_)
    refine Xg.ops_op (by kernel_rfl) (Xg.opx_pure ((pv b 2)) rfl (fun _ => by kernel_rfl) ?_)
    refine Xg.ops_op (by kernel_rfl) (Xg.opx_store1 (off := 2) 0 (iv (if v > (1 : Int) then v else (1 : Int))) (by kernel_rfl) rfl (by kernel_rfl) (by kernel_rfl) (by kernel_rfl) (Nat.le_of_ble_eq_true (by kernel_rfl)) ?_)
    refine Xg.ops_nil ?_
    refine Xg.at_end_ps (v := (tu)) [0] [row b (79 : TypeId) [uv on, uv pk, iv (if v > (1 : Int) then v else (1 : Int))]] Go.Proofs.Tryd.func53 (fun _ => by kernel_rfl) (by kernel_rfl) (by kernel_rfl) ?_
    exact ⟨by kernel_rfl, by kernel_rfl⟩)
theorem opens3_d (b : Nat) (on pk lo md v : Int) (hv : 0 ≤ v ∧ v ≤ 255) : Does Tryd.prog 58 [.pointer (some ⟨b, 0, none⟩), .int .u8 v] [row b 79 [.int .u8 on, .int .u8 pk, .int .i64 lo]] (Ret (.tuple #[]) [row b 79 [.int .u8 (if v % 16 = 10 then 1 else 0), .int .u8 pk, .int .i64 lo]]) := by
  have hb := band_lo v 15 16 hv (Or.inr (Or.inr (Or.inr (Or.inl ⟨rfl, rfl⟩))))
  by_cases h : v % 16 = 10
  · rw [if_pos h]
    (focus
      refine Xg.spec_of Go.Proofs.Tryd.func58 rfl Go.Proofs.Tryd.ntmps58 fun g F => ?_)
    (focus
      refine Xg.at_seq ?_
      refine Xg.at_region ?_
      refine Xg.ops_op (by kernel_rfl) (Xg.opx_pure ((pv b 0)) rfl (fun _ => by kernel_rfl) ?_)
      refine Xg.ops_op (by kernel_rfl) (Xg.opx_pure ((pv b 0)) rfl (fun _ => by kernel_rfl) ?_)
      refine Xg.ops_op (by kernel_rfl) (Xg.opx_pure ((pv b 0)) rfl (fun _ => by kernel_rfl) ?_)
      refine Xg.ops_op (by kernel_rfl) (Xg.opx_store1 (off := 0) 0 (uv 0) (by kernel_rfl) rfl (by kernel_rfl) (by kernel_rfl) (by kernel_rfl) (Nat.le_of_ble_eq_true (by kernel_rfl)) ?_)
      refine Xg.ops_nil ?_
      refine Xg.at_seq ?_
      refine Xg.at_region ?_
      refine Xg.ops_op (by kernel_rfl) (Xg.opx_pure ((uv v)) rfl (fun _ => by kernel_rfl) ?_)
      refine Xg.ops_op (by kernel_rfl) (Xg.opx_pure (.int .u8 (Xg.band .u8 (v) (((15 : Int))))) rfl (fun _ => by kernel_rfl) ?_)
      refine Xg.ops_op (by kernel_rfl) (Xg.opx_pure (.bool (decide (((band IntKind.u8 v (15 : Int)) : Int) = ((10 : Int))))) rfl (fun _ => by kernel_rfl) ?_)
      refine Xg.ops_nil ?_
      refine Xg.at_true (t := decide ((band IntKind.u8 v (15 : Int) = (10 : Int)))) (by kernel_rfl) (decide_eq_true (by omega)) ?_
      refine Xg.at_region ?_
      refine Xg.ops_op (by kernel_rfl) (Xg.opx_pure ((pv b 0)) rfl (fun _ => by kernel_rfl) ?_)
      refine Xg.ops_op (by kernel_rfl) (Xg.opx_pure ((pv b 0)) rfl (fun _ => by kernel_rfl) ?_)
      refine Xg.ops_op (by kernel_rfl) (Xg.opx_pure ((pv b 0)) rfl (fun _ => by kernel_rfl) ?_)
      refine Xg.ops_op (by kernel_rfl) (Xg.opx_store1 (off := 0) 0 (uv 1) (by kernel_rfl) rfl (by kernel_rfl) (by kernel_rfl) (by kernel_rfl) (Nat.le_of_ble_eq_true (by kernel_rfl)) ?_)
      refine Xg.ops_nil ?_
      refine Xg.at_end_ps (v := (tu)) [0] [row b (79 : TypeId) [uv 1, uv pk, iv lo]] Go.Proofs.Tryd.func58 (fun _ => by kernel_rfl) (by kernel_rfl) (by kernel_rfl) ?_
      exact ⟨by kernel_rfl, by kernel_rfl⟩)
  · rw [if_neg h]
    (focus
      refine Xg.spec_of Go.Proofs.Tryd.func58 rfl Go.Proofs.Tryd.ntmps58 fun g F => ?_)
    (focus
      refine Xg.at_seq ?_
      refine Xg.at_region ?_
      refine Xg.ops_op (by kernel_rfl) (Xg.opx_pure ((pv b 0)) rfl (fun _ => by kernel_rfl) ?_)
      refine Xg.ops_op (by kernel_rfl) (Xg.opx_pure ((pv b 0)) rfl (fun _ => by kernel_rfl) ?_)
      refine Xg.ops_op (by kernel_rfl) (Xg.opx_pure ((pv b 0)) rfl (fun _ => by kernel_rfl) ?_)
      refine Xg.ops_op (by kernel_rfl) (Xg.opx_store1 (off := 0) 0 (uv 0) (by kernel_rfl) rfl (by kernel_rfl) (by kernel_rfl) (by kernel_rfl) (Nat.le_of_ble_eq_true (by kernel_rfl)) ?_)
      refine Xg.ops_nil ?_
      refine Xg.at_seq ?_
      refine Xg.at_region ?_
      refine Xg.ops_op (by kernel_rfl) (Xg.opx_pure ((uv v)) rfl (fun _ => by kernel_rfl) ?_)
      refine Xg.ops_op (by kernel_rfl) (Xg.opx_pure (.int .u8 (Xg.band .u8 (v) (((15 : Int))))) rfl (fun _ => by kernel_rfl) ?_)
      refine Xg.ops_op (by kernel_rfl) (Xg.opx_pure (.bool (decide (((band IntKind.u8 v (15 : Int)) : Int) = ((10 : Int))))) rfl (fun _ => by kernel_rfl) ?_)
      refine Xg.ops_nil ?_
      refine Xg.at_false (t := decide ((band IntKind.u8 v (15 : Int) = (10 : Int)))) (by kernel_rfl) (decide_eq_false (by omega)) ?_
      refine Xg.at_skip ?_
      refine Xg.at_end_ps (v := (tu)) [0] [row b (79 : TypeId) [uv 0, uv pk, iv lo]] Go.Proofs.Tryd.func58 (fun _ => by kernel_rfl) (by kernel_rfl) (by kernel_rfl) ?_
      exact ⟨by kernel_rfl, by kernel_rfl⟩)
end Go.Proofs.YthjhkondmobaeaaDoor

/- cart: the mappers' writes. -/
namespace Go.Proofs.YthjhkondmobaeaaDoor
open Go.Sl Go.Xg
set_option linter.unusedVariables false
set_option linter.unusedSimpArgs false
set_option maxHeartbeats 4000000
set_option maxRecDepth 100000

/-- 1 in the place of less. -/
abbrev al1 (v : Int) : Int := if v > 1 then v else 1
/-- ON by what is written. -/
abbrev onV (v : Int) : Int := if v % 16 = 10 then 1 else 0
def regW1 (r : Rg) (a v : Int) : Rg := if a < 8192 then { r with on := onV v } else if a < 16384 then { r with lo := al1 (v % 32) } else if a < 24576 then { r with pk := v % 4 } else { r with md := v % 2 }
def regW2 (r : Rg) (a v : Int) : Rg := if 16384 ≤ a then r else if a / 256 % 2 = 1 then { r with lo := al1 (v % 16) } else { r with on := onV v }
def regW3 (r : Rg) (a v : Int) : Rg := if a < 8192 then { r with on := onV v } else if a < 16384 then { r with lo := al1 (v % 128) } else if a < 24576 then { r with pk := v % 16 } else r
def regW5 (r : Rg) (a v : Int) : Rg := if a < 8192 then { r with on := if v = 10 then 1 else 0 } else if a < 12288 then { r with lo := v } else if a < 16384 then { r with hi := v % 2 } else if a < 24576 then { r with pk := v % 16 } else r
theorem ofInt_nat (w n : Nat) : BitVec.ofInt w (n : Int) = BitVec.ofNat w n := by simp
theorem band64N {x y : Nat} (hx : x < 4611686018427387904) (hy : y < 4611686018427387904) : Xg.band .i64 x y = ((x &&& y : Nat) : Int) := by
  show IntKind.i64.wrap _ = _
  have e : (BitVec.ofInt IntKind.i64.bits (x : Int) &&& BitVec.ofInt IntKind.i64.bits (y : Int)).toNat = x &&& y := by
    show (BitVec.ofInt 64 (x : Int) &&& BitVec.ofInt 64 (y : Int)).toNat = _
    rw [ofInt_nat, ofInt_nat, BitVec.toNat_and, BitVec.toNat_ofNat, BitVec.toNat_ofNat, Nat.mod_eq_of_lt (by omega), Nat.mod_eq_of_lt (by omega)]
  rw [e]
  have : x &&& y ≤ x := Nat.and_le_left
  exact wrap_i64_in (by omega)
theorem band_256 {a : Int} (h : 0 ≤ a ∧ a < 4611686018427387904) : (Xg.band .i64 a 256 = 0 ↔ ¬ a / 256 % 2 = 1) := by
  obtain ⟨n, rfl⟩ : ∃ n : Nat, a = (n : Int) := ⟨a.toNat, by omega⟩
  have e1 : Xg.band .i64 (n : Int) ((256 : Nat) : Int) = ((n &&& 256 : Nat) : Int) := band64N (by omega) (by omega)
  have e2 : ((256 : Nat) : Int) = 256 := rfl
  rw [e2] at e1
  have key : ∀ m : Fin 512, (m.val &&& 256 = 0 ↔ ¬ m.val / 256 % 2 = 1) := by decide +kernel
  have h1 : n &&& 256 ≤ 256 := Nat.and_le_right
  have h2 := Nat.and_mod_two_pow (a := n) (b := 256) (n := 9)
  rw [Nat.mod_eq_of_lt (show n &&& 256 < 2 ^ 9 by omega)] at h2
  have h3 := key ⟨n % 512, Nat.mod_lt _ (by decide)⟩
  have h4 : n &&& 256 = (n % 512) &&& 256 := h2
  rw [e1, h4]
  dsimp only at h3
  constructor
  · intro h5
    have := h3.1 (by omega)
    omega
  · intro h5
    have := h3.2 (by omega)
    omega
theorem write1_d (b : Nat) (r : Rg) (a v : Int) (ha : 0 ≤ a ∧ a < 32768) (hv : 0 ≤ v ∧ v ≤ 255) : Does Tryd.prog 57 [.pointer (some ⟨b, 0, none⟩), .int .i64 a, .int .u8 v] [MR1 b r] (Ret (.tuple #[]) [MR1 b (regW1 r a v)]) := by
  obtain ⟨on, lo, hi, pk, md⟩ := r
  have hb1 := band_lo v 1 2 hv (by decide)
  have hb3 := band_lo v 3 4 hv (by decide)
  have hb15 := band_lo v 15 16 hv (by decide)
  have hb31 := band_lo v 31 32 hv (by decide)
  have hb127 := band_lo v 127 128 hv (by decide)
  unfold regW1
  by_cases h0 : a < 8192
  · rw [if_pos h0]
    have hc := fun x hx => choose1_d b on pk lo md x hx
    have ho := opens1_d b on pk lo md v hv
    (focus
      refine Xg.spec_of Go.Proofs.Tryd.func57 rfl Go.Proofs.Tryd.ntmps57 fun g F => ?_)
    (focus
      refine Xg.at_seq ?_
      refine Xg.at_region ?_
      refine Xg.ops_op (by kernel_rfl) (Xg.opx_pure ((iv a)) rfl (fun _ => by kernel_rfl) ?_)
      refine Xg.ops_op (by kernel_rfl) (Xg.opx_int .i64 (Int.fdiv (a) 8192) rfl (fun _ => by kernel_rfl) (Xg.shr_div _ 8192 (by decide)) ?_)
      refine Xg.ops_nil ?_
      refine Xg.at_block ?_
      refine Xg.at_seq ?_
      refine Xg.at_region ?_
      refine Xg.ops_op (by kernel_rfl) (Xg.opx_pure (.bool (decide (((a / (8192 : Int)) : Int) = ((0 : Int))))) rfl (fun _ => by kernel_rfl) ?_)
      refine Xg.ops_op (by kernel_rfl) (Xg.opx_pure ((Value.bool (decide (a / (8192 : Int) = (0 : Int))))) rfl (fun _ => by kernel_rfl) ?_)
      refine Xg.ops_nil ?_
      refine Xg.at_true (t := decide ((a / (8192 : Int) = (0 : Int)))) (by kernel_rfl) (decide_eq_true (by omega)) ?_
      refine Xg.at_region ?_
      refine Xg.ops_op (by kernel_rfl) (Xg.opx_pure ((pv b 0)) rfl (fun _ => by kernel_rfl) ?_)
      refine Xg.ops_op (by kernel_rfl) (Xg.opx_pure ((pv b 0)) rfl (fun _ => by kernel_rfl) ?_)
      refine Xg.ops_op (by kernel_rfl) (Xg.opx_pure ((pv b 0)) rfl (fun _ => by kernel_rfl) ?_)
      refine Xg.ops_op (by kernel_rfl) (Xg.opx_pure ((uv v)) rfl (fun _ => by kernel_rfl) ?_)
      refine Xg.ops_op (by kernel_rfl) (Xg.opx_call1' [0] [row b (74 : TypeId) [uv (if v % (16 : Int) = (10 : Int) then (1 : Int) else (0 : Int)), uv pk, iv lo, uv md]] (fun _ => by kernel_rfl) (@ho ) (by kernel_rfl) (by kernel_rfl) (by kernel_rfl) ?_)
      refine Xg.ops_nil ?_
      refine Xg.at_inBlock ?_
      refine Xg.at_end_ps (v := (tu)) [0] [row b (74 : TypeId) [uv (if v % (16 : Int) = (10 : Int) then (1 : Int) else (0 : Int)), uv pk, iv lo, uv md]] Go.Proofs.Tryd.func57 (fun _ => by kernel_rfl) (by kernel_rfl) (by kernel_rfl) ?_
      exact ⟨by kernel_rfl, by kernel_rfl⟩)
    all_goals first | (refine ⟨rfl, ?_⟩; rw [hb15]; done) | (refine ⟨rfl, ?_⟩; rw [hb15]; rfl)
  rw [if_neg h0]
  by_cases h1 : a < 16384
  · rw [if_pos h1]
    have hc := fun x hx => choose1_d b on pk lo md x hx
    have ho := opens1_d b on pk lo md v hv
    (focus
      refine Xg.spec_of Go.Proofs.Tryd.func57 rfl Go.Proofs.Tryd.ntmps57 fun g F => ?_)
    (focus
      refine Xg.at_seq ?_
      refine Xg.at_region ?_
      refine Xg.ops_op (by kernel_rfl) (Xg.opx_pure ((iv a)) rfl (fun _ => by kernel_rfl) ?_)
      refine Xg.ops_op (by kernel_rfl) (Xg.opx_int .i64 (Int.fdiv (a) 8192) rfl (fun _ => by kernel_rfl) (Xg.shr_div _ 8192 (by decide)) ?_)
      refine Xg.ops_nil ?_
      refine Xg.at_block ?_
      refine Xg.at_seq ?_
      refine Xg.at_region ?_
      refine Xg.ops_op (by kernel_rfl) (Xg.opx_pure (.bool (decide (((a / (8192 : Int)) : Int) = ((0 : Int))))) rfl (fun _ => by kernel_rfl) ?_)
      refine Xg.ops_op (by kernel_rfl) (Xg.opx_pure ((Value.bool (decide (a / (8192 : Int) = (0 : Int))))) rfl (fun _ => by kernel_rfl) ?_)
      refine Xg.ops_nil ?_
      refine Xg.at_false (t := decide ((a / (8192 : Int) = (0 : Int)))) (by kernel_rfl) (decide_eq_false (by omega)) ?_
      refine Xg.at_seq ?_
      refine Xg.at_region ?_
      refine Xg.ops_op (by kernel_rfl) (Xg.opx_pure (.bool (decide (((a / (8192 : Int)) : Int) = ((1 : Int))))) rfl (fun _ => by kernel_rfl) ?_)
      refine Xg.ops_op (by kernel_rfl) (Xg.opx_pure ((Value.bool (decide (a / (8192 : Int) = (1 : Int))))) rfl (fun _ => by kernel_rfl) ?_)
      refine Xg.ops_nil ?_
      refine Xg.at_true (t := decide ((a / (8192 : Int) = (1 : Int)))) (by kernel_rfl) (decide_eq_true (by omega)) ?_
      refine Xg.at_region ?_
      refine Xg.ops_op (by kernel_rfl) (Xg.opx_pure ((pv b 0)) rfl (fun _ => by kernel_rfl) ?_)
      refine Xg.ops_op (by kernel_rfl) (Xg.opx_pure ((pv b 0)) rfl (fun _ => by kernel_rfl) ?_)
      refine Xg.ops_op (by kernel_rfl) (Xg.opx_pure ((pv b 0)) rfl (fun _ => by kernel_rfl) ?_)
      refine Xg.ops_op (by kernel_rfl) (Xg.opx_pure ((uv v)) rfl (fun _ => by kernel_rfl) ?_)
      refine Xg.ops_op (by kernel_rfl) (Xg.opx_pure (.int .u8 (Xg.band .u8 (v) (((31 : Int))))) rfl (fun _ => by kernel_rfl) ?_)
      refine Xg.ops_op (by kernel_rfl) (Xg.opx_call1' [0] [row b (74 : TypeId) [uv on, uv pk, iv (if band IntKind.u8 v (31 : Int) > (1 : Int) then band IntKind.u8 v (31 : Int) else (1 : Int)), uv md]] (fun _ => by kernel_rfl) (@hc ((band IntKind.u8 v (31 : Int))) (by omega)) (by kernel_rfl) (by kernel_rfl) (by kernel_rfl) ?_)
      refine Xg.ops_nil ?_
      refine Xg.at_inBlock ?_
      refine Xg.at_end_ps (v := (tu)) [0] [row b (74 : TypeId) [uv on, uv pk, iv (if band IntKind.u8 v (31 : Int) > (1 : Int) then band IntKind.u8 v (31 : Int) else (1 : Int)), uv md]] Go.Proofs.Tryd.func57 (fun _ => by kernel_rfl) (by kernel_rfl) (by kernel_rfl) ?_)
    all_goals first | (refine ⟨rfl, ?_⟩; rw [hb31]; done) | (refine ⟨rfl, ?_⟩; rw [hb31]; rfl)
  rw [if_neg h1]
  by_cases h2 : a < 24576
  · rw [if_pos h2]
    have hc := fun x hx => choose1_d b on pk lo md x hx
    have ho := opens1_d b on pk lo md v hv
    (focus
      refine Xg.spec_of Go.Proofs.Tryd.func57 rfl Go.Proofs.Tryd.ntmps57 fun g F => ?_)
    (focus
      refine Xg.at_seq ?_
      refine Xg.at_region ?_
      refine Xg.ops_op (by kernel_rfl) (Xg.opx_pure ((iv a)) rfl (fun _ => by kernel_rfl) ?_)
      refine Xg.ops_op (by kernel_rfl) (Xg.opx_int .i64 (Int.fdiv (a) 8192) rfl (fun _ => by kernel_rfl) (Xg.shr_div _ 8192 (by decide)) ?_)
      refine Xg.ops_nil ?_
      refine Xg.at_block ?_
      refine Xg.at_seq ?_
      refine Xg.at_region ?_
      refine Xg.ops_op (by kernel_rfl) (Xg.opx_pure (.bool (decide (((a / (8192 : Int)) : Int) = ((0 : Int))))) rfl (fun _ => by kernel_rfl) ?_)
      refine Xg.ops_op (by kernel_rfl) (Xg.opx_pure ((Value.bool (decide (a / (8192 : Int) = (0 : Int))))) rfl (fun _ => by kernel_rfl) ?_)
      refine Xg.ops_nil ?_
      refine Xg.at_false (t := decide ((a / (8192 : Int) = (0 : Int)))) (by kernel_rfl) (decide_eq_false (by omega)) ?_
      refine Xg.at_seq ?_
      refine Xg.at_region ?_
      refine Xg.ops_op (by kernel_rfl) (Xg.opx_pure (.bool (decide (((a / (8192 : Int)) : Int) = ((1 : Int))))) rfl (fun _ => by kernel_rfl) ?_)
      refine Xg.ops_op (by kernel_rfl) (Xg.opx_pure ((Value.bool (decide (a / (8192 : Int) = (1 : Int))))) rfl (fun _ => by kernel_rfl) ?_)
      refine Xg.ops_nil ?_
      refine Xg.at_false (t := decide ((a / (8192 : Int) = (1 : Int)))) (by kernel_rfl) (decide_eq_false (by omega)) ?_
      refine Xg.at_seq ?_
      refine Xg.at_region ?_
      refine Xg.ops_op (by kernel_rfl) (Xg.opx_pure (.bool (decide (((a / (8192 : Int)) : Int) = ((2 : Int))))) rfl (fun _ => by kernel_rfl) ?_)
      refine Xg.ops_op (by kernel_rfl) (Xg.opx_pure ((Value.bool (decide (a / (8192 : Int) = (2 : Int))))) rfl (fun _ => by kernel_rfl) ?_)
      refine Xg.ops_nil ?_
      refine Xg.at_true (t := decide ((a / (8192 : Int) = (2 : Int)))) (by kernel_rfl) (decide_eq_true (by omega)) ?_
      refine Xg.at_region ?_
      refine Xg.ops_op (by kernel_rfl) (Xg.opx_pure ((pv b 0)) rfl (fun _ => by kernel_rfl) ?_)
      refine Xg.ops_op (by kernel_rfl) (Xg.opx_pure ((uv v)) rfl (fun _ => by kernel_rfl) ?_)
      refine Xg.ops_op (by kernel_rfl) (Xg.opx_pure (.int .u8 (Xg.band .u8 (v) (((3 : Int))))) rfl (fun _ => by kernel_rfl) ?_)
      refine Xg.ops_op (by kernel_rfl) (Xg.opx_pure ((pv b 0)) rfl (fun _ => by kernel_rfl) ?_)
      refine Xg.ops_op (by kernel_rfl) (Xg.opx_pure ((pv b 0)) rfl (fun _ => by kernel_rfl) ?_)
      refine Xg.ops_op (by kernel_rfl) (Xg.opx_pure ((pv b 1)) rfl (fun _ => by kernel_rfl) ?_)
      refine Xg.ops_op (by kernel_rfl) (Xg.opx_store1 (off := 1) 0 (uv (band IntKind.u8 v (3 : Int))) (by kernel_rfl) rfl (by kernel_rfl) (by kernel_rfl) (by kernel_rfl) (Nat.le_of_ble_eq_true (by kernel_rfl)) ?_)
      refine Xg.ops_nil ?_
      refine Xg.at_inBlock ?_
      refine Xg.at_end_ps (v := (tu)) [0] [row b (74 : TypeId) [uv on, uv (band IntKind.u8 v (3 : Int)), iv lo, uv md]] Go.Proofs.Tryd.func57 (fun _ => by kernel_rfl) (by kernel_rfl) (by kernel_rfl) ?_)
    all_goals first | (refine ⟨rfl, ?_⟩; rw [hb3]; done) | (refine ⟨rfl, ?_⟩; rw [hb3]; rfl)
  rw [if_neg h2]
  have hc := fun x hx => choose1_d b on pk lo md x hx
  have ho := opens1_d b on pk lo md v hv
  (focus
    refine Xg.spec_of Go.Proofs.Tryd.func57 rfl Go.Proofs.Tryd.ntmps57 fun g F => ?_)
  (focus
    refine Xg.at_seq ?_
    refine Xg.at_region ?_
    refine Xg.ops_op (by kernel_rfl) (Xg.opx_pure ((iv a)) rfl (fun _ => by kernel_rfl) ?_)
    refine Xg.ops_op (by kernel_rfl) (Xg.opx_int .i64 (Int.fdiv (a) 8192) rfl (fun _ => by kernel_rfl) (Xg.shr_div _ 8192 (by decide)) ?_)
    refine Xg.ops_nil ?_
    refine Xg.at_block ?_
    refine Xg.at_seq ?_
    refine Xg.at_region ?_
    refine Xg.ops_op (by kernel_rfl) (Xg.opx_pure (.bool (decide (((a / (8192 : Int)) : Int) = ((0 : Int))))) rfl (fun _ => by kernel_rfl) ?_)
    refine Xg.ops_op (by kernel_rfl) (Xg.opx_pure ((Value.bool (decide (a / (8192 : Int) = (0 : Int))))) rfl (fun _ => by kernel_rfl) ?_)
    refine Xg.ops_nil ?_
    refine Xg.at_false (t := decide ((a / (8192 : Int) = (0 : Int)))) (by kernel_rfl) (decide_eq_false (by omega)) ?_
    refine Xg.at_seq ?_
    refine Xg.at_region ?_
    refine Xg.ops_op (by kernel_rfl) (Xg.opx_pure (.bool (decide (((a / (8192 : Int)) : Int) = ((1 : Int))))) rfl (fun _ => by kernel_rfl) ?_)
    refine Xg.ops_op (by kernel_rfl) (Xg.opx_pure ((Value.bool (decide (a / (8192 : Int) = (1 : Int))))) rfl (fun _ => by kernel_rfl) ?_)
    refine Xg.ops_nil ?_
    refine Xg.at_false (t := decide ((a / (8192 : Int) = (1 : Int)))) (by kernel_rfl) (decide_eq_false (by omega)) ?_
    refine Xg.at_seq ?_
    refine Xg.at_region ?_
    refine Xg.ops_op (by kernel_rfl) (Xg.opx_pure (.bool (decide (((a / (8192 : Int)) : Int) = ((2 : Int))))) rfl (fun _ => by kernel_rfl) ?_)
    refine Xg.ops_op (by kernel_rfl) (Xg.opx_pure ((Value.bool (decide (a / (8192 : Int) = (2 : Int))))) rfl (fun _ => by kernel_rfl) ?_)
    refine Xg.ops_nil ?_
    refine Xg.at_false (t := decide ((a / (8192 : Int) = (2 : Int)))) (by kernel_rfl) (decide_eq_false (by omega)) ?_
    refine Xg.at_seq ?_
    refine Xg.at_region ?_
    refine Xg.ops_op (by kernel_rfl) (Xg.opx_pure (.bool (decide (((a / (8192 : Int)) : Int) = ((3 : Int))))) rfl (fun _ => by kernel_rfl) ?_)
    refine Xg.ops_op (by kernel_rfl) (Xg.opx_pure ((Value.bool (decide (a / (8192 : Int) = (3 : Int))))) rfl (fun _ => by kernel_rfl) ?_)
    refine Xg.ops_nil ?_
    refine Xg.at_true (t := decide ((a / (8192 : Int) = (3 : Int)))) (by kernel_rfl) (decide_eq_true (by omega)) ?_
    refine Xg.at_region ?_
    refine Xg.ops_op (by kernel_rfl) (Xg.opx_pure ((pv b 0)) rfl (fun _ => by kernel_rfl) ?_)
    refine Xg.ops_op (by kernel_rfl) (Xg.opx_pure ((uv v)) rfl (fun _ => by kernel_rfl) ?_)
    refine Xg.ops_op (by kernel_rfl) (Xg.opx_pure (.int .u8 (Xg.band .u8 (v) (((1 : Int))))) rfl (fun _ => by kernel_rfl) ?_)
    refine Xg.ops_op (by kernel_rfl) (Xg.opx_pure ((pv b 0)) rfl (fun _ => by kernel_rfl) ?_)
    refine Xg.ops_op (by kernel_rfl) (Xg.opx_pure ((pv b 3)) rfl (fun _ => by kernel_rfl) ?_)
    refine Xg.ops_op (by kernel_rfl) (Xg.opx_store1 (off := 3) 0 (uv (band IntKind.u8 v (1 : Int))) (by kernel_rfl) rfl (by kernel_rfl) (by kernel_rfl) (by kernel_rfl) (Nat.le_of_ble_eq_true (by kernel_rfl)) ?_)
    refine Xg.ops_nil ?_
    refine Xg.at_inBlock ?_
    refine Xg.at_end_ps (v := (tu)) [0] [row b (74 : TypeId) [uv on, uv pk, iv lo, uv (band IntKind.u8 v (1 : Int))]] Go.Proofs.Tryd.func57 (fun _ => by kernel_rfl) (by kernel_rfl) (by kernel_rfl) ?_)
  all_goals first | (refine ⟨rfl, ?_⟩; rw [hb1]; done) | (refine ⟨rfl, ?_⟩; rw [hb1]; rfl)
theorem write2_d (b : Nat) (r : Rg) (a v : Int) (ha : 0 ≤ a ∧ a < 32768) (hv : 0 ≤ v ∧ v ≤ 255) : Does Tryd.prog 62 [.pointer (some ⟨b, 0, none⟩), .int .i64 a, .int .u8 v] [MR2 b r] (Ret (.tuple #[]) [MR2 b (regW2 r a v)]) := by
  obtain ⟨on, lo, hi, pk, md⟩ := r
  have hb1 := band_lo v 1 2 hv (by decide)
  have hb3 := band_lo v 3 4 hv (by decide)
  have hb15 := band_lo v 15 16 hv (by decide)
  have hb31 := band_lo v 31 32 hv (by decide)
  have hb127 := band_lo v 127 128 hv (by decide)
  unfold regW2
  have hb2 := band_256 (a := a) ⟨by omega, by omega⟩
  by_cases h0 : 16384 ≤ a
  · rw [if_pos h0]
    have hc := fun x hx => choose2_d b on pk lo md x hx
    have ho := opens2_d b on pk lo md v hv
    (focus
      refine Xg.spec_of Go.Proofs.Tryd.func62 rfl Go.Proofs.Tryd.ntmps62 fun g F => ?_)
    (focus
      refine Xg.at_block ?_
      refine Xg.at_seq ?_
      refine Xg.at_region ?_
      refine Xg.ops_op (by kernel_rfl) (Xg.opx_pure ((iv a)) rfl (fun _ => by kernel_rfl) ?_)
      refine Xg.ops_op (by kernel_rfl) (Xg.opx_pure (.bool (decide ((a : Int) ≥ ((16384 : Int))))) rfl (fun _ => by kernel_rfl) ?_)
      refine Xg.ops_op (by kernel_rfl) (Xg.opx_pure ((Value.bool (decide (a ≥ (16384 : Int))))) rfl (fun _ => by kernel_rfl) ?_)
      refine Xg.ops_nil ?_
      refine Xg.at_true (t := decide ((a ≥ (16384 : Int)))) (by kernel_rfl) (decide_eq_true (by omega)) ?_
      refine Xg.at_skip ?_
      refine Xg.at_inBlock ?_
      refine Xg.at_end_ps (v := (tu)) [0] [MR2 b (Rg.mk on lo hi pk md)] Go.Proofs.Tryd.func62 (fun _ => by kernel_rfl) (by kernel_rfl) (by kernel_rfl) ?_
      exact ⟨by kernel_rfl, by kernel_rfl⟩)
  rw [if_neg h0]
  by_cases h1 : a / 256 % 2 = 1
  · rw [if_pos h1]
    have hc := fun x hx => choose2_d b on pk lo md x hx
    have ho := opens2_d b on pk lo md v hv
    (focus
      refine Xg.spec_of Go.Proofs.Tryd.func62 rfl Go.Proofs.Tryd.ntmps62 fun g F => ?_)
    (focus
      refine Xg.at_block ?_
      refine Xg.at_seq ?_
      refine Xg.at_region ?_
      refine Xg.ops_op (by kernel_rfl) (Xg.opx_pure ((iv a)) rfl (fun _ => by kernel_rfl) ?_)
      refine Xg.ops_op (by kernel_rfl) (Xg.opx_pure (.bool (decide ((a : Int) ≥ ((16384 : Int))))) rfl (fun _ => by kernel_rfl) ?_)
      refine Xg.ops_op (by kernel_rfl) (Xg.opx_pure ((Value.bool (decide (a ≥ (16384 : Int))))) rfl (fun _ => by kernel_rfl) ?_)
      refine Xg.ops_nil ?_
      refine Xg.at_false (t := decide ((a ≥ (16384 : Int)))) (by kernel_rfl) (decide_eq_false (by omega)) ?_
      refine Xg.at_seq ?_
      refine Xg.at_region ?_
      refine Xg.ops_op (by kernel_rfl) (Xg.opx_pure ((iv a)) rfl (fun _ => by kernel_rfl) ?_)
      refine Xg.ops_op (by kernel_rfl) (Xg.opx_pure (.int .i64 (Xg.band .i64 (a) (((256 : Int))))) rfl (fun _ => by kernel_rfl) ?_)
      refine Xg.ops_op (by kernel_rfl) (Xg.opx_pure (.bool (!decide (((band IntKind.i64 a (256 : Int)) : Int) = ((0 : Int))))) rfl (fun _ => by kernel_rfl) ?_)
      refine Xg.ops_op (by kernel_rfl) (Xg.opx_pure ((Value.bool !decide (band IntKind.i64 a (256 : Int) = (0 : Int)))) rfl (fun _ => by kernel_rfl) ?_)
      refine Xg.ops_nil ?_
      refine Xg.at_true (t := !decide ((band IntKind.i64 a (256 : Int) = (0 : Int)))) (by kernel_rfl) (by rw [decide_eq_false (by omega)]; rfl) ?_
      refine Xg.at_region ?_
      refine Xg.ops_op (by kernel_rfl) (Xg.opx_pure ((pv b 0)) rfl (fun _ => by kernel_rfl) ?_)
      refine Xg.ops_op (by kernel_rfl) (Xg.opx_pure ((pv b 0)) rfl (fun _ => by kernel_rfl) ?_)
      refine Xg.ops_op (by kernel_rfl) (Xg.opx_pure ((pv b 0)) rfl (fun _ => by kernel_rfl) ?_)
      refine Xg.ops_op (by kernel_rfl) (Xg.opx_pure ((uv v)) rfl (fun _ => by kernel_rfl) ?_)
      refine Xg.ops_op (by kernel_rfl) (Xg.opx_pure (.int .u8 (Xg.band .u8 (v) (((15 : Int))))) rfl (fun _ => by kernel_rfl) ?_)
      refine Xg.ops_op (by kernel_rfl) (Xg.opx_call1' [0] [row b (77 : TypeId) [uv on, uv pk, iv (if band IntKind.u8 v (15 : Int) > (1 : Int) then band IntKind.u8 v (15 : Int) else (1 : Int))]] (fun _ => by kernel_rfl) (@hc ((band IntKind.u8 v (15 : Int))) (by omega)) (by kernel_rfl) (by kernel_rfl) (by kernel_rfl) ?_)
      refine Xg.ops_nil ?_
      refine Xg.at_inBlock ?_
      refine Xg.at_end_ps (v := (tu)) [0] [row b (77 : TypeId) [uv on, uv pk, iv (if band IntKind.u8 v (15 : Int) > (1 : Int) then band IntKind.u8 v (15 : Int) else (1 : Int))]] Go.Proofs.Tryd.func62 (fun _ => by kernel_rfl) (by kernel_rfl) (by kernel_rfl) ?_)
    all_goals first | (refine ⟨rfl, ?_⟩; rw [hb15]; done) | (refine ⟨rfl, ?_⟩; rw [hb15]; rfl)
  rw [if_neg h1]
  have hc := fun x hx => choose2_d b on pk lo md x hx
  have ho := opens2_d b on pk lo md v hv
  (focus
    refine Xg.spec_of Go.Proofs.Tryd.func62 rfl Go.Proofs.Tryd.ntmps62 fun g F => ?_)
  (focus
    refine Xg.at_block ?_
    refine Xg.at_seq ?_
    refine Xg.at_region ?_
    refine Xg.ops_op (by kernel_rfl) (Xg.opx_pure ((iv a)) rfl (fun _ => by kernel_rfl) ?_)
    refine Xg.ops_op (by kernel_rfl) (Xg.opx_pure (.bool (decide ((a : Int) ≥ ((16384 : Int))))) rfl (fun _ => by kernel_rfl) ?_)
    refine Xg.ops_op (by kernel_rfl) (Xg.opx_pure ((Value.bool (decide (a ≥ (16384 : Int))))) rfl (fun _ => by kernel_rfl) ?_)
    refine Xg.ops_nil ?_
    refine Xg.at_false (t := decide ((a ≥ (16384 : Int)))) (by kernel_rfl) (decide_eq_false (by omega)) ?_
    refine Xg.at_seq ?_
    refine Xg.at_region ?_
    refine Xg.ops_op (by kernel_rfl) (Xg.opx_pure ((iv a)) rfl (fun _ => by kernel_rfl) ?_)
    refine Xg.ops_op (by kernel_rfl) (Xg.opx_pure (.int .i64 (Xg.band .i64 (a) (((256 : Int))))) rfl (fun _ => by kernel_rfl) ?_)
    refine Xg.ops_op (by kernel_rfl) (Xg.opx_pure (.bool (!decide (((band IntKind.i64 a (256 : Int)) : Int) = ((0 : Int))))) rfl (fun _ => by kernel_rfl) ?_)
    refine Xg.ops_op (by kernel_rfl) (Xg.opx_pure ((Value.bool !decide (band IntKind.i64 a (256 : Int) = (0 : Int)))) rfl (fun _ => by kernel_rfl) ?_)
    refine Xg.ops_nil ?_
    refine Xg.at_false (t := !decide ((band IntKind.i64 a (256 : Int) = (0 : Int)))) (by kernel_rfl) (by rw [decide_eq_true (by omega)]; rfl) ?_
    refine Xg.at_region ?_
    refine Xg.ops_op (by kernel_rfl) (Xg.opx_pure ((pv b 0)) rfl (fun _ => by kernel_rfl) ?_)
    refine Xg.ops_op (by kernel_rfl) (Xg.opx_pure ((pv b 0)) rfl (fun _ => by kernel_rfl) ?_)
    refine Xg.ops_op (by kernel_rfl) (Xg.opx_pure ((pv b 0)) rfl (fun _ => by kernel_rfl) ?_)
    refine Xg.ops_op (by kernel_rfl) (Xg.opx_pure ((uv v)) rfl (fun _ => by kernel_rfl) ?_)
    refine Xg.ops_op (by kernel_rfl) (Xg.opx_call1' [0] [row b (77 : TypeId) [uv (if v % (16 : Int) = (10 : Int) then (1 : Int) else (0 : Int)), uv pk, iv lo]] (fun _ => by kernel_rfl) (@ho ) (by kernel_rfl) (by kernel_rfl) (by kernel_rfl) ?_)
    refine Xg.ops_nil ?_
    refine Xg.at_inBlock ?_
    refine Xg.at_end_ps (v := (tu)) [0] [row b (77 : TypeId) [uv (if v % (16 : Int) = (10 : Int) then (1 : Int) else (0 : Int)), uv pk, iv lo]] Go.Proofs.Tryd.func62 (fun _ => by kernel_rfl) (by kernel_rfl) (by kernel_rfl) ?_
    exact ⟨by kernel_rfl, by kernel_rfl⟩)
theorem write3_d (b : Nat) (r : Rg) (a v : Int) (ha : 0 ≤ a ∧ a < 32768) (hv : 0 ≤ v ∧ v ≤ 255) : Does Tryd.prog 64 [.pointer (some ⟨b, 0, none⟩), .int .i64 a, .int .u8 v] [MR3 b r] (Ret (.tuple #[]) [MR3 b (regW3 r a v)]) := by
  obtain ⟨on, lo, hi, pk, md⟩ := r
  have hb1 := band_lo v 1 2 hv (by decide)
  have hb3 := band_lo v 3 4 hv (by decide)
  have hb15 := band_lo v 15 16 hv (by decide)
  have hb31 := band_lo v 31 32 hv (by decide)
  have hb127 := band_lo v 127 128 hv (by decide)
  unfold regW3
  by_cases h0 : a < 8192
  · rw [if_pos h0]
    have hc := fun x hx => choose3_d b on pk lo md x hx
    have ho := opens3_d b on pk lo md v hv
    (focus
      refine Xg.spec_of Go.Proofs.Tryd.func64 rfl Go.Proofs.Tryd.ntmps64 fun g F => ?_)
    (focus
      refine Xg.at_seq ?_
      refine Xg.at_region ?_
      refine Xg.ops_op (by kernel_rfl) (Xg.opx_pure ((iv a)) rfl (fun _ => by kernel_rfl) ?_)
      refine Xg.ops_op (by kernel_rfl) (Xg.opx_int .i64 (Int.fdiv (a) 8192) rfl (fun _ => by kernel_rfl) (Xg.shr_div _ 8192 (by decide)) ?_)
      refine Xg.ops_nil ?_
      refine Xg.at_block ?_
      refine Xg.at_seq ?_
      refine Xg.at_region ?_
      refine Xg.ops_op (by kernel_rfl) (Xg.opx_pure (.bool (decide (((a / (8192 : Int)) : Int) = ((0 : Int))))) rfl (fun _ => by kernel_rfl) ?_)
      refine Xg.ops_op (by kernel_rfl) (Xg.opx_pure ((Value.bool (decide (a / (8192 : Int) = (0 : Int))))) rfl (fun _ => by kernel_rfl) ?_)
      refine Xg.ops_nil ?_
      refine Xg.at_true (t := decide ((a / (8192 : Int) = (0 : Int)))) (by kernel_rfl) (decide_eq_true (by omega)) ?_
      refine Xg.at_region ?_
      refine Xg.ops_op (by kernel_rfl) (Xg.opx_pure ((pv b 0)) rfl (fun _ => by kernel_rfl) ?_)
      refine Xg.ops_op (by kernel_rfl) (Xg.opx_pure ((pv b 0)) rfl (fun _ => by kernel_rfl) ?_)
      refine Xg.ops_op (by kernel_rfl) (Xg.opx_pure ((pv b 0)) rfl (fun _ => by kernel_rfl) ?_)
      refine Xg.ops_op (by kernel_rfl) (Xg.opx_pure ((uv v)) rfl (fun _ => by kernel_rfl) ?_)
      refine Xg.ops_op (by kernel_rfl) (Xg.opx_call1' [0] [row b (79 : TypeId) [uv (if v % (16 : Int) = (10 : Int) then (1 : Int) else (0 : Int)), uv pk, iv lo]] (fun _ => by kernel_rfl) (@ho ) (by kernel_rfl) (by kernel_rfl) (by kernel_rfl) ?_)
      refine Xg.ops_nil ?_
      refine Xg.at_inBlock ?_
      refine Xg.at_end_ps (v := (tu)) [0] [row b (79 : TypeId) [uv (if v % (16 : Int) = (10 : Int) then (1 : Int) else (0 : Int)), uv pk, iv lo]] Go.Proofs.Tryd.func64 (fun _ => by kernel_rfl) (by kernel_rfl) (by kernel_rfl) ?_
      exact ⟨by kernel_rfl, by kernel_rfl⟩)
  rw [if_neg h0]
  by_cases h1 : a < 16384
  · rw [if_pos h1]
    have hc := fun x hx => choose3_d b on pk lo md x hx
    have ho := opens3_d b on pk lo md v hv
    (focus
      refine Xg.spec_of Go.Proofs.Tryd.func64 rfl Go.Proofs.Tryd.ntmps64 fun g F => ?_)
    (focus
      refine Xg.at_seq ?_
      refine Xg.at_region ?_
      refine Xg.ops_op (by kernel_rfl) (Xg.opx_pure ((iv a)) rfl (fun _ => by kernel_rfl) ?_)
      refine Xg.ops_op (by kernel_rfl) (Xg.opx_int .i64 (Int.fdiv (a) 8192) rfl (fun _ => by kernel_rfl) (Xg.shr_div _ 8192 (by decide)) ?_)
      refine Xg.ops_nil ?_
      refine Xg.at_block ?_
      refine Xg.at_seq ?_
      refine Xg.at_region ?_
      refine Xg.ops_op (by kernel_rfl) (Xg.opx_pure (.bool (decide (((a / (8192 : Int)) : Int) = ((0 : Int))))) rfl (fun _ => by kernel_rfl) ?_)
      refine Xg.ops_op (by kernel_rfl) (Xg.opx_pure ((Value.bool (decide (a / (8192 : Int) = (0 : Int))))) rfl (fun _ => by kernel_rfl) ?_)
      refine Xg.ops_nil ?_
      refine Xg.at_false (t := decide ((a / (8192 : Int) = (0 : Int)))) (by kernel_rfl) (decide_eq_false (by omega)) ?_
      refine Xg.at_seq ?_
      refine Xg.at_region ?_
      refine Xg.ops_op (by kernel_rfl) (Xg.opx_pure (.bool (decide (((a / (8192 : Int)) : Int) = ((1 : Int))))) rfl (fun _ => by kernel_rfl) ?_)
      refine Xg.ops_op (by kernel_rfl) (Xg.opx_pure ((Value.bool (decide (a / (8192 : Int) = (1 : Int))))) rfl (fun _ => by kernel_rfl) ?_)
      refine Xg.ops_nil ?_
      refine Xg.at_true (t := decide ((a / (8192 : Int) = (1 : Int)))) (by kernel_rfl) (decide_eq_true (by omega)) ?_
      refine Xg.at_region ?_
      refine Xg.ops_op (by kernel_rfl) (Xg.opx_pure ((pv b 0)) rfl (fun _ => by kernel_rfl) ?_)
      refine Xg.ops_op (by kernel_rfl) (Xg.opx_pure ((pv b 0)) rfl (fun _ => by kernel_rfl) ?_)
      refine Xg.ops_op (by kernel_rfl) (Xg.opx_pure ((pv b 0)) rfl (fun _ => by kernel_rfl) ?_)
      refine Xg.ops_op (by kernel_rfl) (Xg.opx_pure ((uv v)) rfl (fun _ => by kernel_rfl) ?_)
      refine Xg.ops_op (by kernel_rfl) (Xg.opx_pure (.int .u8 (Xg.band .u8 (v) (((127 : Int))))) rfl (fun _ => by kernel_rfl) ?_)
      refine Xg.ops_op (by kernel_rfl) (Xg.opx_call1' [0] [row b (79 : TypeId) [uv on, uv pk, iv (if band IntKind.u8 v (127 : Int) > (1 : Int) then band IntKind.u8 v (127 : Int) else (1 : Int))]] (fun _ => by kernel_rfl) (@hc ((band IntKind.u8 v (127 : Int))) (by omega)) (by kernel_rfl) (by kernel_rfl) (by kernel_rfl) ?_)
      refine Xg.ops_nil ?_
      refine Xg.at_inBlock ?_
      refine Xg.at_end_ps (v := (tu)) [0] [row b (79 : TypeId) [uv on, uv pk, iv (if band IntKind.u8 v (127 : Int) > (1 : Int) then band IntKind.u8 v (127 : Int) else (1 : Int))]] Go.Proofs.Tryd.func64 (fun _ => by kernel_rfl) (by kernel_rfl) (by kernel_rfl) ?_)
    all_goals first | (refine ⟨rfl, ?_⟩; rw [hb127]; done) | (refine ⟨rfl, ?_⟩; rw [hb127]; rfl)
  rw [if_neg h1]
  by_cases h2 : a < 24576
  · rw [if_pos h2]
    have hc := fun x hx => choose3_d b on pk lo md x hx
    have ho := opens3_d b on pk lo md v hv
    (focus
      refine Xg.spec_of Go.Proofs.Tryd.func64 rfl Go.Proofs.Tryd.ntmps64 fun g F => ?_)
    (focus
      refine Xg.at_seq ?_
      refine Xg.at_region ?_
      refine Xg.ops_op (by kernel_rfl) (Xg.opx_pure ((iv a)) rfl (fun _ => by kernel_rfl) ?_)
      refine Xg.ops_op (by kernel_rfl) (Xg.opx_int .i64 (Int.fdiv (a) 8192) rfl (fun _ => by kernel_rfl) (Xg.shr_div _ 8192 (by decide)) ?_)
      refine Xg.ops_nil ?_
      refine Xg.at_block ?_
      refine Xg.at_seq ?_
      refine Xg.at_region ?_
      refine Xg.ops_op (by kernel_rfl) (Xg.opx_pure (.bool (decide (((a / (8192 : Int)) : Int) = ((0 : Int))))) rfl (fun _ => by kernel_rfl) ?_)
      refine Xg.ops_op (by kernel_rfl) (Xg.opx_pure ((Value.bool (decide (a / (8192 : Int) = (0 : Int))))) rfl (fun _ => by kernel_rfl) ?_)
      refine Xg.ops_nil ?_
      refine Xg.at_false (t := decide ((a / (8192 : Int) = (0 : Int)))) (by kernel_rfl) (decide_eq_false (by omega)) ?_
      refine Xg.at_seq ?_
      refine Xg.at_region ?_
      refine Xg.ops_op (by kernel_rfl) (Xg.opx_pure (.bool (decide (((a / (8192 : Int)) : Int) = ((1 : Int))))) rfl (fun _ => by kernel_rfl) ?_)
      refine Xg.ops_op (by kernel_rfl) (Xg.opx_pure ((Value.bool (decide (a / (8192 : Int) = (1 : Int))))) rfl (fun _ => by kernel_rfl) ?_)
      refine Xg.ops_nil ?_
      refine Xg.at_false (t := decide ((a / (8192 : Int) = (1 : Int)))) (by kernel_rfl) (decide_eq_false (by omega)) ?_
      refine Xg.at_seq ?_
      refine Xg.at_region ?_
      refine Xg.ops_op (by kernel_rfl) (Xg.opx_pure (.bool (decide (((a / (8192 : Int)) : Int) = ((2 : Int))))) rfl (fun _ => by kernel_rfl) ?_)
      refine Xg.ops_op (by kernel_rfl) (Xg.opx_pure ((Value.bool (decide (a / (8192 : Int) = (2 : Int))))) rfl (fun _ => by kernel_rfl) ?_)
      refine Xg.ops_nil ?_
      refine Xg.at_true (t := decide ((a / (8192 : Int) = (2 : Int)))) (by kernel_rfl) (decide_eq_true (by omega)) ?_
      refine Xg.at_region ?_
      refine Xg.ops_op (by kernel_rfl) (Xg.opx_pure ((pv b 0)) rfl (fun _ => by kernel_rfl) ?_)
      refine Xg.ops_op (by kernel_rfl) (Xg.opx_pure ((uv v)) rfl (fun _ => by kernel_rfl) ?_)
      refine Xg.ops_op (by kernel_rfl) (Xg.opx_pure (.int .u8 (Xg.band .u8 (v) (((15 : Int))))) rfl (fun _ => by kernel_rfl) ?_)
      refine Xg.ops_op (by kernel_rfl) (Xg.opx_pure ((pv b 0)) rfl (fun _ => by kernel_rfl) ?_)
      refine Xg.ops_op (by kernel_rfl) (Xg.opx_pure ((pv b 0)) rfl (fun _ => by kernel_rfl) ?_)
      refine Xg.ops_op (by kernel_rfl) (Xg.opx_pure ((pv b 1)) rfl (fun _ => by kernel_rfl) ?_)
      refine Xg.ops_op (by kernel_rfl) (Xg.opx_store1 (off := 1) 0 (uv (band IntKind.u8 v (15 : Int))) (by kernel_rfl) rfl (by kernel_rfl) (by kernel_rfl) (by kernel_rfl) (Nat.le_of_ble_eq_true (by kernel_rfl)) ?_)
      refine Xg.ops_nil ?_
      refine Xg.at_inBlock ?_
      refine Xg.at_end_ps (v := (tu)) [0] [row b (79 : TypeId) [uv on, uv (band IntKind.u8 v (15 : Int)), iv lo]] Go.Proofs.Tryd.func64 (fun _ => by kernel_rfl) (by kernel_rfl) (by kernel_rfl) ?_)
    all_goals first | (refine ⟨rfl, ?_⟩; rw [hb15]; done) | (refine ⟨rfl, ?_⟩; rw [hb15]; rfl)
  rw [if_neg h2]
  have hc := fun x hx => choose3_d b on pk lo md x hx
  have ho := opens3_d b on pk lo md v hv
  (focus
    refine Xg.spec_of Go.Proofs.Tryd.func64 rfl Go.Proofs.Tryd.ntmps64 fun g F => ?_)
  (focus
    refine Xg.at_seq ?_
    refine Xg.at_region ?_
    refine Xg.ops_op (by kernel_rfl) (Xg.opx_pure ((iv a)) rfl (fun _ => by kernel_rfl) ?_)
    refine Xg.ops_op (by kernel_rfl) (Xg.opx_int .i64 (Int.fdiv (a) 8192) rfl (fun _ => by kernel_rfl) (Xg.shr_div _ 8192 (by decide)) ?_)
    refine Xg.ops_nil ?_
    refine Xg.at_block ?_
    refine Xg.at_seq ?_
    refine Xg.at_region ?_
    refine Xg.ops_op (by kernel_rfl) (Xg.opx_pure (.bool (decide (((a / (8192 : Int)) : Int) = ((0 : Int))))) rfl (fun _ => by kernel_rfl) ?_)
    refine Xg.ops_op (by kernel_rfl) (Xg.opx_pure ((Value.bool (decide (a / (8192 : Int) = (0 : Int))))) rfl (fun _ => by kernel_rfl) ?_)
    refine Xg.ops_nil ?_
    refine Xg.at_false (t := decide ((a / (8192 : Int) = (0 : Int)))) (by kernel_rfl) (decide_eq_false (by omega)) ?_
    refine Xg.at_seq ?_
    refine Xg.at_region ?_
    refine Xg.ops_op (by kernel_rfl) (Xg.opx_pure (.bool (decide (((a / (8192 : Int)) : Int) = ((1 : Int))))) rfl (fun _ => by kernel_rfl) ?_)
    refine Xg.ops_op (by kernel_rfl) (Xg.opx_pure ((Value.bool (decide (a / (8192 : Int) = (1 : Int))))) rfl (fun _ => by kernel_rfl) ?_)
    refine Xg.ops_nil ?_
    refine Xg.at_false (t := decide ((a / (8192 : Int) = (1 : Int)))) (by kernel_rfl) (decide_eq_false (by omega)) ?_
    refine Xg.at_seq ?_
    refine Xg.at_region ?_
    refine Xg.ops_op (by kernel_rfl) (Xg.opx_pure (.bool (decide (((a / (8192 : Int)) : Int) = ((2 : Int))))) rfl (fun _ => by kernel_rfl) ?_)
    refine Xg.ops_op (by kernel_rfl) (Xg.opx_pure ((Value.bool (decide (a / (8192 : Int) = (2 : Int))))) rfl (fun _ => by kernel_rfl) ?_)
    refine Xg.ops_nil ?_
    refine Xg.at_false (t := decide ((a / (8192 : Int) = (2 : Int)))) (by kernel_rfl) (decide_eq_false (by omega)) ?_
    refine Xg.at_skip ?_
    refine Xg.at_inBlock ?_
    refine Xg.at_end_ps (v := (tu)) [0] [MR3 b (Rg.mk on lo hi pk md)] Go.Proofs.Tryd.func64 (fun _ => by kernel_rfl) (by kernel_rfl) (by kernel_rfl) ?_
    exact ⟨by kernel_rfl, by kernel_rfl⟩)
theorem write5_d (b : Nat) (r : Rg) (a v : Int) (ha : 0 ≤ a ∧ a < 32768) (hv : 0 ≤ v ∧ v ≤ 255) : Does Tryd.prog 66 [.pointer (some ⟨b, 0, none⟩), .int .i64 a, .int .u8 v] [MR5 b r] (Ret (.tuple #[]) [MR5 b (regW5 r a v)]) := by
  obtain ⟨on, lo, hi, pk, md⟩ := r
  have hb1 := band_lo v 1 2 hv (by decide)
  have hb3 := band_lo v 3 4 hv (by decide)
  have hb15 := band_lo v 15 16 hv (by decide)
  have hb31 := band_lo v 31 32 hv (by decide)
  have hb127 := band_lo v 127 128 hv (by decide)
  unfold regW5
  by_cases h0 : a < 8192
  · rw [if_pos h0]
    by_cases h10 : v = 10
    · rw [if_pos h10]
      (focus
        refine Xg.spec_of Go.Proofs.Tryd.func66 rfl Go.Proofs.Tryd.ntmps66 fun g F => ?_)
      (focus
        refine Xg.at_seq ?_
        refine Xg.at_region ?_
        refine Xg.ops_op (by kernel_rfl) (Xg.opx_pure ((iv a)) rfl (fun _ => by kernel_rfl) ?_)
        refine Xg.ops_op (by kernel_rfl) (Xg.opx_int .i64 (Int.fdiv (a) 4096) rfl (fun _ => by kernel_rfl) (Xg.shr_div _ 4096 (by decide)) ?_)
        refine Xg.ops_nil ?_
        refine Xg.at_block ?_
        refine Xg.at_seq ?_
        refine Xg.at_seq ?_
        refine Xg.at_region ?_
        refine Xg.ops_op (by kernel_rfl) (Xg.opx_pure (.bool (decide (((a / (4096 : Int)) : Int) = ((0 : Int))))) rfl (fun _ => by kernel_rfl) ?_)
        refine Xg.ops_op (by kernel_rfl) (Xg.opx_pure ((Value.bool (decide (a / (4096 : Int) = (0 : Int))))) rfl (fun _ => by kernel_rfl) ?_)
        refine Xg.ops_nil ?_
        refine Xg.at_dec (p := (a / (4096 : Int) = (0 : Int))) (by kernel_rfl) (fun xh1 => ?_) (fun xh1 => ?_)
        refine Xg.at_skip ?_
        refine Xg.at_true (t := decide ((a / (4096 : Int) = (0 : Int)))) (by kernel_rfl) (decide_eq_true (by omega)) ?_
        refine Xg.at_seq ?_
        refine Xg.at_region ?_
        refine Xg.ops_op (by kernel_rfl) (Xg.opx_pure ((pv b 0)) rfl (fun _ => by kernel_rfl) ?_)
        refine Xg.ops_op (by kernel_rfl) (Xg.opx_pure ((pv b 0)) rfl (fun _ => by kernel_rfl) ?_)
        refine Xg.ops_op (by kernel_rfl) (Xg.opx_pure ((pv b 0)) rfl (fun _ => by kernel_rfl) ?_)
        refine Xg.ops_op (by kernel_rfl) (Xg.opx_pure ((pv b 0)) rfl (fun _ => by kernel_rfl) ?_)
        refine Xg.ops_op (by kernel_rfl) (Xg.opx_store1 (off := 0) 0 (uv 0) (by kernel_rfl) rfl (by kernel_rfl) (by kernel_rfl) (by kernel_rfl) (Nat.le_of_ble_eq_true (by kernel_rfl)) ?_)
        refine Xg.ops_nil ?_
        refine Xg.at_seq ?_
        refine Xg.at_region ?_
        refine Xg.ops_op (by kernel_rfl) (Xg.opx_pure ((uv v)) rfl (fun _ => by kernel_rfl) ?_)
        refine Xg.ops_op (by kernel_rfl) (Xg.opx_pure (.bool (decide ((v : Int) = ((10 : Int))))) rfl (fun _ => by kernel_rfl) ?_)
        refine Xg.ops_nil ?_
        refine Xg.at_true (t := decide ((v = (10 : Int)))) (by kernel_rfl) (decide_eq_true (by omega)) ?_
        refine Xg.at_region ?_
        refine Xg.ops_op (by kernel_rfl) (Xg.opx_pure ((pv b 0)) rfl (fun _ => by kernel_rfl) ?_)
        refine Xg.ops_op (by kernel_rfl) (Xg.opx_pure ((pv b 0)) rfl (fun _ => by kernel_rfl) ?_)
        refine Xg.ops_op (by kernel_rfl) (Xg.opx_pure ((pv b 0)) rfl (fun _ => by kernel_rfl) ?_)
        refine Xg.ops_op (by kernel_rfl) (Xg.opx_pure ((pv b 0)) rfl (fun _ => by kernel_rfl) ?_)
        refine Xg.ops_op (by kernel_rfl) (Xg.opx_store1 (off := 0) 0 (uv 1) (by kernel_rfl) rfl (by kernel_rfl) (by kernel_rfl) (by kernel_rfl) (Nat.le_of_ble_eq_true (by kernel_rfl)) ?_)
        refine Xg.ops_nil ?_
        refine Xg.at_inBlock ?_
        refine Xg.at_end_ps (v := (tu)) [0] [row b (82 : TypeId) [uv 1, uv pk, iv lo, uv hi]] Go.Proofs.Tryd.func66 (fun _ => by kernel_rfl) (by kernel_rfl) (by kernel_rfl) ?_
        exact ⟨by kernel_rfl, by kernel_rfl⟩
        refine Xg.at_region ?_
        refine Xg.ops_op (by kernel_rfl) (Xg.opx_pure (.bool (decide (((a / (4096 : Int)) : Int) = ((1 : Int))))) rfl (fun _ => by kernel_rfl) ?_)
        refine Xg.ops_op (by kernel_rfl) (Xg.opx_pure ((Value.bool (decide (a / (4096 : Int) = (1 : Int))))) rfl (fun _ => by kernel_rfl) ?_)
        refine Xg.ops_nil ?_
        refine Xg.at_true (t := decide ((a / (4096 : Int) = (1 : Int)))) (by kernel_rfl) (decide_eq_true (by omega)) ?_
        refine Xg.at_seq ?_
        refine Xg.at_region ?_
        refine Xg.ops_op (by kernel_rfl) (Xg.opx_pure ((pv b 0)) rfl (fun _ => by kernel_rfl) ?_)
        refine Xg.ops_op (by kernel_rfl) (Xg.opx_pure ((pv b 0)) rfl (fun _ => by kernel_rfl) ?_)
        refine Xg.ops_op (by kernel_rfl) (Xg.opx_pure ((pv b 0)) rfl (fun _ => by kernel_rfl) ?_)
        refine Xg.ops_op (by kernel_rfl) (Xg.opx_pure ((pv b 0)) rfl (fun _ => by kernel_rfl) ?_)
        refine Xg.ops_op (by kernel_rfl) (Xg.opx_store1 (off := 0) 0 (uv 0) (by kernel_rfl) rfl (by kernel_rfl) (by kernel_rfl) (by kernel_rfl) (Nat.le_of_ble_eq_true (by kernel_rfl)) ?_)
        refine Xg.ops_nil ?_
        refine Xg.at_seq ?_
        refine Xg.at_region ?_
        refine Xg.ops_op (by kernel_rfl) (Xg.opx_pure ((uv v)) rfl (fun _ => by kernel_rfl) ?_)
        refine Xg.ops_op (by kernel_rfl) (Xg.opx_pure (.bool (decide ((v : Int) = ((10 : Int))))) rfl (fun _ => by kernel_rfl) ?_)
        refine Xg.ops_nil ?_
        refine Xg.at_true (t := decide ((v = (10 : Int)))) (by kernel_rfl) (decide_eq_true (by omega)) ?_
        refine Xg.at_region ?_
        refine Xg.ops_op (by kernel_rfl) (Xg.opx_pure ((pv b 0)) rfl (fun _ => by kernel_rfl) ?_)
        refine Xg.ops_op (by kernel_rfl) (Xg.opx_pure ((pv b 0)) rfl (fun _ => by kernel_rfl) ?_)
        refine Xg.ops_op (by kernel_rfl) (Xg.opx_pure ((pv b 0)) rfl (fun _ => by kernel_rfl) ?_)
        refine Xg.ops_op (by kernel_rfl) (Xg.opx_pure ((pv b 0)) rfl (fun _ => by kernel_rfl) ?_)
        refine Xg.ops_op (by kernel_rfl) (Xg.opx_store1 (off := 0) 0 (uv 1) (by kernel_rfl) rfl (by kernel_rfl) (by kernel_rfl) (by kernel_rfl) (Nat.le_of_ble_eq_true (by kernel_rfl)) ?_)
        refine Xg.ops_nil ?_
        refine Xg.at_inBlock ?_
        refine Xg.at_end_ps (v := (tu)) [0] [row b (82 : TypeId) [uv 1, uv pk, iv lo, uv hi]] Go.Proofs.Tryd.func66 (fun _ => by kernel_rfl) (by kernel_rfl) (by kernel_rfl) ?_
        exact ⟨by kernel_rfl, by kernel_rfl⟩)
    · rw [if_neg h10]
      (focus
        refine Xg.spec_of Go.Proofs.Tryd.func66 rfl Go.Proofs.Tryd.ntmps66 fun g F => ?_)
      (focus
        refine Xg.at_seq ?_
        refine Xg.at_region ?_
        refine Xg.ops_op (by kernel_rfl) (Xg.opx_pure ((iv a)) rfl (fun _ => by kernel_rfl) ?_)
        refine Xg.ops_op (by kernel_rfl) (Xg.opx_int .i64 (Int.fdiv (a) 4096) rfl (fun _ => by kernel_rfl) (Xg.shr_div _ 4096 (by decide)) ?_)
        refine Xg.ops_nil ?_
        refine Xg.at_block ?_
        refine Xg.at_seq ?_
        refine Xg.at_seq ?_
        refine Xg.at_region ?_
        refine Xg.ops_op (by kernel_rfl) (Xg.opx_pure (.bool (decide (((a / (4096 : Int)) : Int) = ((0 : Int))))) rfl (fun _ => by kernel_rfl) ?_)
        refine Xg.ops_op (by kernel_rfl) (Xg.opx_pure ((Value.bool (decide (a / (4096 : Int) = (0 : Int))))) rfl (fun _ => by kernel_rfl) ?_)
        refine Xg.ops_nil ?_
        refine Xg.at_dec (p := (a / (4096 : Int) = (0 : Int))) (by kernel_rfl) (fun xh1 => ?_) (fun xh1 => ?_)
        refine Xg.at_skip ?_
        refine Xg.at_true (t := decide ((a / (4096 : Int) = (0 : Int)))) (by kernel_rfl) (decide_eq_true (by omega)) ?_
        refine Xg.at_seq ?_
        refine Xg.at_region ?_
        refine Xg.ops_op (by kernel_rfl) (Xg.opx_pure ((pv b 0)) rfl (fun _ => by kernel_rfl) ?_)
        refine Xg.ops_op (by kernel_rfl) (Xg.opx_pure ((pv b 0)) rfl (fun _ => by kernel_rfl) ?_)
        refine Xg.ops_op (by kernel_rfl) (Xg.opx_pure ((pv b 0)) rfl (fun _ => by kernel_rfl) ?_)
        refine Xg.ops_op (by kernel_rfl) (Xg.opx_pure ((pv b 0)) rfl (fun _ => by kernel_rfl) ?_)
        refine Xg.ops_op (by kernel_rfl) (Xg.opx_store1 (off := 0) 0 (uv 0) (by kernel_rfl) rfl (by kernel_rfl) (by kernel_rfl) (by kernel_rfl) (Nat.le_of_ble_eq_true (by kernel_rfl)) ?_)
        refine Xg.ops_nil ?_
        refine Xg.at_seq ?_
        refine Xg.at_region ?_
        refine Xg.ops_op (by kernel_rfl) (Xg.opx_pure ((uv v)) rfl (fun _ => by kernel_rfl) ?_)
        refine Xg.ops_op (by kernel_rfl) (Xg.opx_pure (.bool (decide ((v : Int) = ((10 : Int))))) rfl (fun _ => by kernel_rfl) ?_)
        refine Xg.ops_nil ?_
        refine Xg.at_false (t := decide ((v = (10 : Int)))) (by kernel_rfl) (decide_eq_false (by omega)) ?_
        refine Xg.at_skip ?_
        refine Xg.at_inBlock ?_
        refine Xg.at_end_ps (v := (tu)) [0] [row b (82 : TypeId) [uv 0, uv pk, iv lo, uv hi]] Go.Proofs.Tryd.func66 (fun _ => by kernel_rfl) (by kernel_rfl) (by kernel_rfl) ?_
        exact ⟨by kernel_rfl, by kernel_rfl⟩
        refine Xg.at_region ?_
        refine Xg.ops_op (by kernel_rfl) (Xg.opx_pure (.bool (decide (((a / (4096 : Int)) : Int) = ((1 : Int))))) rfl (fun _ => by kernel_rfl) ?_)
        refine Xg.ops_op (by kernel_rfl) (Xg.opx_pure ((Value.bool (decide (a / (4096 : Int) = (1 : Int))))) rfl (fun _ => by kernel_rfl) ?_)
        refine Xg.ops_nil ?_
        refine Xg.at_true (t := decide ((a / (4096 : Int) = (1 : Int)))) (by kernel_rfl) (decide_eq_true (by omega)) ?_
        refine Xg.at_seq ?_
        refine Xg.at_region ?_
        refine Xg.ops_op (by kernel_rfl) (Xg.opx_pure ((pv b 0)) rfl (fun _ => by kernel_rfl) ?_)
        refine Xg.ops_op (by kernel_rfl) (Xg.opx_pure ((pv b 0)) rfl (fun _ => by kernel_rfl) ?_)
        refine Xg.ops_op (by kernel_rfl) (Xg.opx_pure ((pv b 0)) rfl (fun _ => by kernel_rfl) ?_)
        refine Xg.ops_op (by kernel_rfl) (Xg.opx_pure ((pv b 0)) rfl (fun _ => by kernel_rfl) ?_)
        refine Xg.ops_op (by kernel_rfl) (Xg.opx_store1 (off := 0) 0 (uv 0) (by kernel_rfl) rfl (by kernel_rfl) (by kernel_rfl) (by kernel_rfl) (Nat.le_of_ble_eq_true (by kernel_rfl)) ?_)
        refine Xg.ops_nil ?_
        refine Xg.at_seq ?_
        refine Xg.at_region ?_
        refine Xg.ops_op (by kernel_rfl) (Xg.opx_pure ((uv v)) rfl (fun _ => by kernel_rfl) ?_)
        refine Xg.ops_op (by kernel_rfl) (Xg.opx_pure (.bool (decide ((v : Int) = ((10 : Int))))) rfl (fun _ => by kernel_rfl) ?_)
        refine Xg.ops_nil ?_
        refine Xg.at_false (t := decide ((v = (10 : Int)))) (by kernel_rfl) (decide_eq_false (by omega)) ?_
        refine Xg.at_skip ?_
        refine Xg.at_inBlock ?_
        refine Xg.at_end_ps (v := (tu)) [0] [row b (82 : TypeId) [uv 0, uv pk, iv lo, uv hi]] Go.Proofs.Tryd.func66 (fun _ => by kernel_rfl) (by kernel_rfl) (by kernel_rfl) ?_
        exact ⟨by kernel_rfl, by kernel_rfl⟩)
  rw [if_neg h0]
  by_cases h1 : a < 12288
  · rw [if_pos h1]
    (focus
      refine Xg.spec_of Go.Proofs.Tryd.func66 rfl Go.Proofs.Tryd.ntmps66 fun g F => ?_)
    (focus
      refine Xg.at_seq ?_
      refine Xg.at_region ?_
      refine Xg.ops_op (by kernel_rfl) (Xg.opx_pure ((iv a)) rfl (fun _ => by kernel_rfl) ?_)
      refine Xg.ops_op (by kernel_rfl) (Xg.opx_int .i64 (Int.fdiv (a) 4096) rfl (fun _ => by kernel_rfl) (Xg.shr_div _ 4096 (by decide)) ?_)
      refine Xg.ops_nil ?_
      refine Xg.at_block ?_
      refine Xg.at_seq ?_
      refine Xg.at_seq ?_
      refine Xg.at_region ?_
      refine Xg.ops_op (by kernel_rfl) (Xg.opx_pure (.bool (decide (((a / (4096 : Int)) : Int) = ((0 : Int))))) rfl (fun _ => by kernel_rfl) ?_)
      refine Xg.ops_op (by kernel_rfl) (Xg.opx_pure ((Value.bool (decide (a / (4096 : Int) = (0 : Int))))) rfl (fun _ => by kernel_rfl) ?_)
      refine Xg.ops_nil ?_
      refine Xg.at_false (t := decide ((a / (4096 : Int) = (0 : Int)))) (by kernel_rfl) (decide_eq_false (by omega)) ?_
      refine Xg.at_region ?_
      refine Xg.ops_op (by kernel_rfl) (Xg.opx_pure (.bool (decide (((a / (4096 : Int)) : Int) = ((1 : Int))))) rfl (fun _ => by kernel_rfl) ?_)
      refine Xg.ops_op (by kernel_rfl) (Xg.opx_pure ((Value.bool (decide (a / (4096 : Int) = (1 : Int))))) rfl (fun _ => by kernel_rfl) ?_)
      refine Xg.ops_nil ?_
      refine Xg.at_false (t := decide ((a / (4096 : Int) = (1 : Int)))) (by kernel_rfl) (decide_eq_false (by omega)) ?_
      refine Xg.at_seq ?_
      refine Xg.at_region ?_
      refine Xg.ops_op (by kernel_rfl) (Xg.opx_pure (.bool (decide (((a / (4096 : Int)) : Int) = ((2 : Int))))) rfl (fun _ => by kernel_rfl) ?_)
      refine Xg.ops_op (by kernel_rfl) (Xg.opx_pure ((Value.bool (decide (a / (4096 : Int) = (2 : Int))))) rfl (fun _ => by kernel_rfl) ?_)
      refine Xg.ops_nil ?_
      refine Xg.at_true (t := decide ((a / (4096 : Int) = (2 : Int)))) (by kernel_rfl) (decide_eq_true (by omega)) ?_
      refine Xg.at_region ?_
      refine Xg.ops_op (by kernel_rfl) (Xg.opx_pure ((pv b 0)) rfl (fun _ => by kernel_rfl) ?_)
      refine Xg.ops_op (by kernel_rfl) (Xg.opx_pure ((uv v)) rfl (fun _ => by kernel_rfl) ?_)
      refine Xg.ops_op (by kernel_rfl) (Xg.opx_int .i64 (IntKind.wrap .i64 (v)) rfl (fun _ => by kernel_rfl) (Xg.wrap_i64_in (by omega)) ?_)
      refine Xg.ops_op (by kernel_rfl) (Xg.opx_pure ((pv b 0)) rfl (fun _ => by kernel_rfl) ?_)
      refine Xg.ops_op (by kernel_rfl) (Xg.opx_pure ((pv b 0)) rfl (fun _ => by kernel_rfl) ?_)
      refine Xg.ops_op (by kernel_rfl) (Xg.opx_pure ((pv b 2)) rfl (fun _ => by kernel_rfl) ?_)
      refine Xg.ops_op (by kernel_rfl) (Xg.opx_store1 (off := 2) 0 (iv v) (by kernel_rfl) rfl (by kernel_rfl) (by kernel_rfl) (by kernel_rfl) (Nat.le_of_ble_eq_true (by kernel_rfl)) ?_)
      refine Xg.ops_nil ?_
      refine Xg.at_inBlock ?_
      refine Xg.at_end_ps (v := (tu)) [0] [row b (82 : TypeId) [uv on, uv pk, iv v, uv hi]] Go.Proofs.Tryd.func66 (fun _ => by kernel_rfl) (by kernel_rfl) (by kernel_rfl) ?_
      exact ⟨by kernel_rfl, by kernel_rfl⟩)
  rw [if_neg h1]
  by_cases h2 : a < 16384
  · rw [if_pos h2]
    (focus
      refine Xg.spec_of Go.Proofs.Tryd.func66 rfl Go.Proofs.Tryd.ntmps66 fun g F => ?_)
    (focus
      refine Xg.at_seq ?_
      refine Xg.at_region ?_
      refine Xg.ops_op (by kernel_rfl) (Xg.opx_pure ((iv a)) rfl (fun _ => by kernel_rfl) ?_)
      refine Xg.ops_op (by kernel_rfl) (Xg.opx_int .i64 (Int.fdiv (a) 4096) rfl (fun _ => by kernel_rfl) (Xg.shr_div _ 4096 (by decide)) ?_)
      refine Xg.ops_nil ?_
      refine Xg.at_block ?_
      refine Xg.at_seq ?_
      refine Xg.at_seq ?_
      refine Xg.at_region ?_
      refine Xg.ops_op (by kernel_rfl) (Xg.opx_pure (.bool (decide (((a / (4096 : Int)) : Int) = ((0 : Int))))) rfl (fun _ => by kernel_rfl) ?_)
      refine Xg.ops_op (by kernel_rfl) (Xg.opx_pure ((Value.bool (decide (a / (4096 : Int) = (0 : Int))))) rfl (fun _ => by kernel_rfl) ?_)
      refine Xg.ops_nil ?_
      refine Xg.at_false (t := decide ((a / (4096 : Int) = (0 : Int)))) (by kernel_rfl) (decide_eq_false (by omega)) ?_
      refine Xg.at_region ?_
      refine Xg.ops_op (by kernel_rfl) (Xg.opx_pure (.bool (decide (((a / (4096 : Int)) : Int) = ((1 : Int))))) rfl (fun _ => by kernel_rfl) ?_)
      refine Xg.ops_op (by kernel_rfl) (Xg.opx_pure ((Value.bool (decide (a / (4096 : Int) = (1 : Int))))) rfl (fun _ => by kernel_rfl) ?_)
      refine Xg.ops_nil ?_
      refine Xg.at_false (t := decide ((a / (4096 : Int) = (1 : Int)))) (by kernel_rfl) (decide_eq_false (by omega)) ?_
      refine Xg.at_seq ?_
      refine Xg.at_region ?_
      refine Xg.ops_op (by kernel_rfl) (Xg.opx_pure (.bool (decide (((a / (4096 : Int)) : Int) = ((2 : Int))))) rfl (fun _ => by kernel_rfl) ?_)
      refine Xg.ops_op (by kernel_rfl) (Xg.opx_pure ((Value.bool (decide (a / (4096 : Int) = (2 : Int))))) rfl (fun _ => by kernel_rfl) ?_)
      refine Xg.ops_nil ?_
      refine Xg.at_false (t := decide ((a / (4096 : Int) = (2 : Int)))) (by kernel_rfl) (decide_eq_false (by omega)) ?_
      refine Xg.at_seq ?_
      refine Xg.at_region ?_
      refine Xg.ops_op (by kernel_rfl) (Xg.opx_pure (.bool (decide (((a / (4096 : Int)) : Int) = ((3 : Int))))) rfl (fun _ => by kernel_rfl) ?_)
      refine Xg.ops_op (by kernel_rfl) (Xg.opx_pure ((Value.bool (decide (a / (4096 : Int) = (3 : Int))))) rfl (fun _ => by kernel_rfl) ?_)
      refine Xg.ops_nil ?_
      refine Xg.at_true (t := decide ((a / (4096 : Int) = (3 : Int)))) (by kernel_rfl) (decide_eq_true (by omega)) ?_
      refine Xg.at_region ?_
      refine Xg.ops_op (by kernel_rfl) (Xg.opx_pure ((pv b 0)) rfl (fun _ => by kernel_rfl) ?_)
      refine Xg.ops_op (by kernel_rfl) (Xg.opx_pure ((uv v)) rfl (fun _ => by kernel_rfl) ?_)
      refine Xg.ops_op (by kernel_rfl) (Xg.opx_pure (.int .u8 (Xg.band .u8 (v) (((1 : Int))))) rfl (fun _ => by kernel_rfl) ?_)
      refine Xg.ops_op (by kernel_rfl) (Xg.opx_pure ((pv b 0)) rfl (fun _ => by kernel_rfl) ?_)
      refine Xg.ops_op (by kernel_rfl) (Xg.opx_pure ((pv b 3)) rfl (fun _ => by kernel_rfl) ?_)
      refine Xg.ops_op (by kernel_rfl) (Xg.opx_store1 (off := 3) 0 (uv (band IntKind.u8 v (1 : Int))) (by kernel_rfl) rfl (by kernel_rfl) (by kernel_rfl) (by kernel_rfl) (Nat.le_of_ble_eq_true (by kernel_rfl)) ?_)
      refine Xg.ops_nil ?_
      refine Xg.at_inBlock ?_
      refine Xg.at_end_ps (v := (tu)) [0] [row b (82 : TypeId) [uv on, uv pk, iv lo, uv (band IntKind.u8 v (1 : Int))]] Go.Proofs.Tryd.func66 (fun _ => by kernel_rfl) (by kernel_rfl) (by kernel_rfl) ?_)
    all_goals first | (refine ⟨rfl, ?_⟩; rw [hb1]; done) | (refine ⟨rfl, ?_⟩; rw [hb1]; rfl)
  rw [if_neg h2]
  by_cases h3 : a < 24576
  · rw [if_pos h3]
    (focus
      refine Xg.spec_of Go.Proofs.Tryd.func66 rfl Go.Proofs.Tryd.ntmps66 fun g F => ?_)
    (focus
      refine Xg.at_seq ?_
      refine Xg.at_region ?_
      refine Xg.ops_op (by kernel_rfl) (Xg.opx_pure ((iv a)) rfl (fun _ => by kernel_rfl) ?_)
      refine Xg.ops_op (by kernel_rfl) (Xg.opx_int .i64 (Int.fdiv (a) 4096) rfl (fun _ => by kernel_rfl) (Xg.shr_div _ 4096 (by decide)) ?_)
      refine Xg.ops_nil ?_
      refine Xg.at_block ?_
      refine Xg.at_seq ?_
      refine Xg.at_seq ?_
      refine Xg.at_region ?_
      refine Xg.ops_op (by kernel_rfl) (Xg.opx_pure (.bool (decide (((a / (4096 : Int)) : Int) = ((0 : Int))))) rfl (fun _ => by kernel_rfl) ?_)
      refine Xg.ops_op (by kernel_rfl) (Xg.opx_pure ((Value.bool (decide (a / (4096 : Int) = (0 : Int))))) rfl (fun _ => by kernel_rfl) ?_)
      refine Xg.ops_nil ?_
      refine Xg.at_false (t := decide ((a / (4096 : Int) = (0 : Int)))) (by kernel_rfl) (decide_eq_false (by omega)) ?_
      refine Xg.at_region ?_
      refine Xg.ops_op (by kernel_rfl) (Xg.opx_pure (.bool (decide (((a / (4096 : Int)) : Int) = ((1 : Int))))) rfl (fun _ => by kernel_rfl) ?_)
      refine Xg.ops_op (by kernel_rfl) (Xg.opx_pure ((Value.bool (decide (a / (4096 : Int) = (1 : Int))))) rfl (fun _ => by kernel_rfl) ?_)
      refine Xg.ops_nil ?_
      refine Xg.at_false (t := decide ((a / (4096 : Int) = (1 : Int)))) (by kernel_rfl) (decide_eq_false (by omega)) ?_
      refine Xg.at_seq ?_
      refine Xg.at_region ?_
      refine Xg.ops_op (by kernel_rfl) (Xg.opx_pure (.bool (decide (((a / (4096 : Int)) : Int) = ((2 : Int))))) rfl (fun _ => by kernel_rfl) ?_)
      refine Xg.ops_op (by kernel_rfl) (Xg.opx_pure ((Value.bool (decide (a / (4096 : Int) = (2 : Int))))) rfl (fun _ => by kernel_rfl) ?_)
      refine Xg.ops_nil ?_
      refine Xg.at_false (t := decide ((a / (4096 : Int) = (2 : Int)))) (by kernel_rfl) (decide_eq_false (by omega)) ?_
      refine Xg.at_seq ?_
      refine Xg.at_region ?_
      refine Xg.ops_op (by kernel_rfl) (Xg.opx_pure (.bool (decide (((a / (4096 : Int)) : Int) = ((3 : Int))))) rfl (fun _ => by kernel_rfl) ?_)
      refine Xg.ops_op (by kernel_rfl) (Xg.opx_pure ((Value.bool (decide (a / (4096 : Int) = (3 : Int))))) rfl (fun _ => by kernel_rfl) ?_)
      refine Xg.ops_nil ?_
      refine Xg.at_false (t := decide ((a / (4096 : Int) = (3 : Int)))) (by kernel_rfl) (decide_eq_false (by omega)) ?_
      refine Xg.at_seq ?_
      refine Xg.at_seq ?_
      refine Xg.at_region ?_
      refine Xg.ops_op (by kernel_rfl) (Xg.opx_pure (.bool (decide (((a / (4096 : Int)) : Int) = ((4 : Int))))) rfl (fun _ => by kernel_rfl) ?_)
      refine Xg.ops_op (by kernel_rfl) (Xg.opx_pure ((Value.bool (decide (a / (4096 : Int) = (4 : Int))))) rfl (fun _ => by kernel_rfl) ?_)
      refine Xg.ops_nil ?_
      refine Xg.at_dec (p := (a / (4096 : Int) = (4 : Int))) (by kernel_rfl) (fun xh1 => ?_) (fun xh1 => ?_)
      refine Xg.at_skip ?_
      refine Xg.at_true (t := decide ((a / (4096 : Int) = (4 : Int)))) (by kernel_rfl) (decide_eq_true (by omega)) ?_
      refine Xg.at_region ?_
      refine Xg.ops_op (by kernel_rfl) (Xg.opx_pure ((pv b 0)) rfl (fun _ => by kernel_rfl) ?_)
      refine Xg.ops_op (by kernel_rfl) (Xg.opx_pure ((uv v)) rfl (fun _ => by kernel_rfl) ?_)
      refine Xg.ops_op (by kernel_rfl) (Xg.opx_pure (.int .u8 (Xg.band .u8 (v) (((15 : Int))))) rfl (fun _ => by kernel_rfl) ?_)
      refine Xg.ops_op (by kernel_rfl) (Xg.opx_pure ((pv b 0)) rfl (fun _ => by kernel_rfl) ?_)
      refine Xg.ops_op (by kernel_rfl) (Xg.opx_pure ((pv b 0)) rfl (fun _ => by kernel_rfl) ?_)
      refine Xg.ops_op (by kernel_rfl) (Xg.opx_pure ((pv b 1)) rfl (fun _ => by kernel_rfl) ?_)
      refine Xg.ops_op (by kernel_rfl) (Xg.opx_store1 (off := 1) 0 (uv (band IntKind.u8 v (15 : Int))) (by kernel_rfl) rfl (by kernel_rfl) (by kernel_rfl) (by kernel_rfl) (Nat.le_of_ble_eq_true (by kernel_rfl)) ?_)
      refine Xg.ops_nil ?_
      refine Xg.at_inBlock ?_
      refine Xg.at_end_ps (v := (tu)) [0] [row b (82 : TypeId) [uv on, uv (band IntKind.u8 v (15 : Int)), iv lo, uv hi]] Go.Proofs.Tryd.func66 (fun _ => by kernel_rfl) (by kernel_rfl) (by kernel_rfl) ?_
      rotate_left
      refine Xg.at_region ?_
      refine Xg.ops_op (by kernel_rfl) (Xg.opx_pure (.bool (decide (((a / (4096 : Int)) : Int) = ((5 : Int))))) rfl (fun _ => by kernel_rfl) ?_)
      refine Xg.ops_op (by kernel_rfl) (Xg.opx_pure ((Value.bool (decide (a / (4096 : Int) = (5 : Int))))) rfl (fun _ => by kernel_rfl) ?_)
      refine Xg.ops_nil ?_
      refine Xg.at_true (t := decide ((a / (4096 : Int) = (5 : Int)))) (by kernel_rfl) (decide_eq_true (by omega)) ?_
      refine Xg.at_region ?_
      refine Xg.ops_op (by kernel_rfl) (Xg.opx_pure ((pv b 0)) rfl (fun _ => by kernel_rfl) ?_)
      refine Xg.ops_op (by kernel_rfl) (Xg.opx_pure ((uv v)) rfl (fun _ => by kernel_rfl) ?_)
      refine Xg.ops_op (by kernel_rfl) (Xg.opx_pure (.int .u8 (Xg.band .u8 (v) (((15 : Int))))) rfl (fun _ => by kernel_rfl) ?_)
      refine Xg.ops_op (by kernel_rfl) (Xg.opx_pure ((pv b 0)) rfl (fun _ => by kernel_rfl) ?_)
      refine Xg.ops_op (by kernel_rfl) (Xg.opx_pure ((pv b 0)) rfl (fun _ => by kernel_rfl) ?_)
      refine Xg.ops_op (by kernel_rfl) (Xg.opx_pure ((pv b 1)) rfl (fun _ => by kernel_rfl) ?_)
      refine Xg.ops_op (by kernel_rfl) (Xg.opx_store1 (off := 1) 0 (uv (band IntKind.u8 v (15 : Int))) (by kernel_rfl) rfl (by kernel_rfl) (by kernel_rfl) (by kernel_rfl) (Nat.le_of_ble_eq_true (by kernel_rfl)) ?_)
      refine Xg.ops_nil ?_
      refine Xg.at_inBlock ?_
      refine Xg.at_end_ps (v := (tu)) [0] [row b (82 : TypeId) [uv on, uv (band IntKind.u8 v (15 : Int)), iv lo, uv hi]] Go.Proofs.Tryd.func66 (fun _ => by kernel_rfl) (by kernel_rfl) (by kernel_rfl) ?_)
    all_goals first | (refine ⟨rfl, ?_⟩; rw [hb15]; done) | (refine ⟨rfl, ?_⟩; rw [hb15]; rfl)
  rw [if_neg h3]
  (focus
    refine Xg.spec_of Go.Proofs.Tryd.func66 rfl Go.Proofs.Tryd.ntmps66 fun g F => ?_)
  (focus
    refine Xg.at_seq ?_
    refine Xg.at_region ?_
    refine Xg.ops_op (by kernel_rfl) (Xg.opx_pure ((iv a)) rfl (fun _ => by kernel_rfl) ?_)
    refine Xg.ops_op (by kernel_rfl) (Xg.opx_int .i64 (Int.fdiv (a) 4096) rfl (fun _ => by kernel_rfl) (Xg.shr_div _ 4096 (by decide)) ?_)
    refine Xg.ops_nil ?_
    refine Xg.at_block ?_
    refine Xg.at_seq ?_
    refine Xg.at_seq ?_
    refine Xg.at_region ?_
    refine Xg.ops_op (by kernel_rfl) (Xg.opx_pure (.bool (decide (((a / (4096 : Int)) : Int) = ((0 : Int))))) rfl (fun _ => by kernel_rfl) ?_)
    refine Xg.ops_op (by kernel_rfl) (Xg.opx_pure ((Value.bool (decide (a / (4096 : Int) = (0 : Int))))) rfl (fun _ => by kernel_rfl) ?_)
    refine Xg.ops_nil ?_
    refine Xg.at_false (t := decide ((a / (4096 : Int) = (0 : Int)))) (by kernel_rfl) (decide_eq_false (by omega)) ?_
    refine Xg.at_region ?_
    refine Xg.ops_op (by kernel_rfl) (Xg.opx_pure (.bool (decide (((a / (4096 : Int)) : Int) = ((1 : Int))))) rfl (fun _ => by kernel_rfl) ?_)
    refine Xg.ops_op (by kernel_rfl) (Xg.opx_pure ((Value.bool (decide (a / (4096 : Int) = (1 : Int))))) rfl (fun _ => by kernel_rfl) ?_)
    refine Xg.ops_nil ?_
    refine Xg.at_false (t := decide ((a / (4096 : Int) = (1 : Int)))) (by kernel_rfl) (decide_eq_false (by omega)) ?_
    refine Xg.at_seq ?_
    refine Xg.at_region ?_
    refine Xg.ops_op (by kernel_rfl) (Xg.opx_pure (.bool (decide (((a / (4096 : Int)) : Int) = ((2 : Int))))) rfl (fun _ => by kernel_rfl) ?_)
    refine Xg.ops_op (by kernel_rfl) (Xg.opx_pure ((Value.bool (decide (a / (4096 : Int) = (2 : Int))))) rfl (fun _ => by kernel_rfl) ?_)
    refine Xg.ops_nil ?_
    refine Xg.at_false (t := decide ((a / (4096 : Int) = (2 : Int)))) (by kernel_rfl) (decide_eq_false (by omega)) ?_
    refine Xg.at_seq ?_
    refine Xg.at_region ?_
    refine Xg.ops_op (by kernel_rfl) (Xg.opx_pure (.bool (decide (((a / (4096 : Int)) : Int) = ((3 : Int))))) rfl (fun _ => by kernel_rfl) ?_)
    refine Xg.ops_op (by kernel_rfl) (Xg.opx_pure ((Value.bool (decide (a / (4096 : Int) = (3 : Int))))) rfl (fun _ => by kernel_rfl) ?_)
    refine Xg.ops_nil ?_
    refine Xg.at_false (t := decide ((a / (4096 : Int) = (3 : Int)))) (by kernel_rfl) (decide_eq_false (by omega)) ?_
    refine Xg.at_seq ?_
    refine Xg.at_seq ?_
    refine Xg.at_region ?_
    refine Xg.ops_op (by kernel_rfl) (Xg.opx_pure (.bool (decide (((a / (4096 : Int)) : Int) = ((4 : Int))))) rfl (fun _ => by kernel_rfl) ?_)
    refine Xg.ops_op (by kernel_rfl) (Xg.opx_pure ((Value.bool (decide (a / (4096 : Int) = (4 : Int))))) rfl (fun _ => by kernel_rfl) ?_)
    refine Xg.ops_nil ?_
    refine Xg.at_false (t := decide ((a / (4096 : Int) = (4 : Int)))) (by kernel_rfl) (decide_eq_false (by omega)) ?_
    refine Xg.at_region ?_
    refine Xg.ops_op (by kernel_rfl) (Xg.opx_pure (.bool (decide (((a / (4096 : Int)) : Int) = ((5 : Int))))) rfl (fun _ => by kernel_rfl) ?_)
    refine Xg.ops_op (by kernel_rfl) (Xg.opx_pure ((Value.bool (decide (a / (4096 : Int) = (5 : Int))))) rfl (fun _ => by kernel_rfl) ?_)
    refine Xg.ops_nil ?_
    refine Xg.at_false (t := decide ((a / (4096 : Int) = (5 : Int)))) (by kernel_rfl) (decide_eq_false (by omega)) ?_
    refine Xg.at_skip ?_
    refine Xg.at_inBlock ?_
    refine Xg.at_end_ps (v := (tu)) [0] [MR5 b (Rg.mk on lo hi pk md)] Go.Proofs.Tryd.func66 (fun _ => by kernel_rfl) (by kernel_rfl) (by kernel_rfl) ?_
    exact ⟨by kernel_rfl, by kernel_rfl⟩)
end Go.Proofs.YthjhkondmobaeaaDoor

/- cart: the ROM that a box makes. -/
namespace Go.Proofs.YthjhkondmobaeaaDoor
open Go.Sl Go.Xg
set_option linter.unusedVariables false
set_option linter.unusedSimpArgs false
set_option maxHeartbeats 4000000
set_option maxRecDepth 100000

/-- Which of n things. -/
def pickI (c n : Int) : Int := if c < 0 then (-(c + 1)) % n else c % n
theorem pick_d (c n : Int) (hc : -9223372036854775808 ≤ c ∧ c ≤ 9223372036854775807) (hn : 1 ≤ n ∧ n ≤ 9223372036854775807) : Does Tryd.prog 7 [.int .i64 c, .int .i64 n] [] (Ret (.int .i64 (pickI c n)) []) := by
  unfold pickI
  by_cases h : c < 0
  · rw [if_pos h, show -(c + 1) = 0 - (c + 1) by omega]
    (focus
      refine Xg.spec_of Go.Proofs.Tryd.func7 rfl Go.Proofs.Tryd.ntmps7 fun g F => ?_)
    (focus
      refine Xg.at_seq ?_
      refine Xg.at_region ?_
      refine Xg.ops_op (by kernel_rfl) (Xg.opx_pure ((iv 0)) rfl (fun _ => by kernel_rfl) ?_)
      refine Xg.ops_nil ?_
      refine Xg.at_seq ?_
      refine Xg.at_seq ?_
      refine Xg.at_region ?_
      refine Xg.ops_op (by kernel_rfl) (Xg.opx_pure ((iv c)) rfl (fun _ => by kernel_rfl) ?_)
      refine Xg.ops_op (by kernel_rfl) (Xg.opx_pure (.bool (decide ((c : Int) < ((0 : Int))))) rfl (fun _ => by kernel_rfl) ?_)
      refine Xg.ops_nil ?_
      refine Xg.at_true (t := decide ((c < (0 : Int)))) (by kernel_rfl) (decide_eq_true (by omega)) ?_
      refine Xg.at_region ?_
      refine Xg.ops_op (by kernel_rfl) (Xg.opx_pure ((iv c)) rfl (fun _ => by kernel_rfl) ?_)
      refine Xg.ops_op (by kernel_rfl) (Xg.opx_int .i64 (IntKind.wrap .i64 ((c + (1 : Int)))) rfl (fun _ => by kernel_rfl) (Xg.wrap_i64_in (by omega)) ?_)
      refine Xg.ops_op (by kernel_rfl) (Xg.opx_int .i64 (IntKind.wrap .i64 (((0 : Int) - (c + (1 : Int))))) rfl (fun _ => by kernel_rfl) (Xg.wrap_i64_in (by omega)) ?_)
      refine Xg.ops_op (by kernel_rfl) (Xg.opx_pure ((iv ((0 : Int) - (c + (1 : Int))))) rfl (fun _ => by kernel_rfl) ?_)
      refine Xg.ops_nil ?_
      refine Xg.at_seq ?_
      refine Xg.at_region ?_
      refine Xg.ops_op (by kernel_rfl) (Xg.opx_pure ((iv ((0 : Int) - (c + (1 : Int))))) rfl (fun _ => by kernel_rfl) ?_)
      refine Xg.ops_op (by kernel_rfl) (Xg.opx_pure ((iv n)) rfl (fun _ => by kernel_rfl) ?_)
      refine Xg.ops_op (by kernel_rfl) (Xg.opx_run (.int .i64 (((0 : Int) - (c + (1 : Int))) % n)) rfl (fun _ => Xg.run_rem (k1 := .i64) (m := ((0 : Int) - (c + (1 : Int)))) (e := n) (by kernel_rfl) (by kernel_rfl) (by omega) (by omega)) ?_)
      refine Xg.ops_op (by kernel_rfl) (Xg.opx_pure ((iv (((0 : Int) - (c + (1 : Int))) % n))) rfl (fun _ => by kernel_rfl) ?_)
      refine Xg.ops_nil ?_
      refine Xg.at_ret_ps (v := (iv (((0 : Int) - (c + (1 : Int))) % n))) [] [] Go.Proofs.Tryd.func7 (fun _ => by kernel_rfl) (by kernel_rfl) (by kernel_rfl) ?_
      exact ⟨by kernel_rfl, by kernel_rfl⟩)
  · rw [if_neg h]
    (focus
      refine Xg.spec_of Go.Proofs.Tryd.func7 rfl Go.Proofs.Tryd.ntmps7 fun g F => ?_)
    (focus
      refine Xg.at_seq ?_
      refine Xg.at_region ?_
      refine Xg.ops_op (by kernel_rfl) (Xg.opx_pure ((iv 0)) rfl (fun _ => by kernel_rfl) ?_)
      refine Xg.ops_nil ?_
      refine Xg.at_seq ?_
      refine Xg.at_seq ?_
      refine Xg.at_region ?_
      refine Xg.ops_op (by kernel_rfl) (Xg.opx_pure ((iv c)) rfl (fun _ => by kernel_rfl) ?_)
      refine Xg.ops_op (by kernel_rfl) (Xg.opx_pure (.bool (decide ((c : Int) < ((0 : Int))))) rfl (fun _ => by kernel_rfl) ?_)
      refine Xg.ops_nil ?_
      refine Xg.at_false (t := decide ((c < (0 : Int)))) (by kernel_rfl) (decide_eq_false (by omega)) ?_
      refine Xg.at_skip ?_
      refine Xg.at_seq ?_
      refine Xg.at_region ?_
      refine Xg.ops_op (by kernel_rfl) (Xg.opx_pure ((iv c)) rfl (fun _ => by kernel_rfl) ?_)
      refine Xg.ops_op (by kernel_rfl) (Xg.opx_pure ((iv n)) rfl (fun _ => by kernel_rfl) ?_)
      refine Xg.ops_op (by kernel_rfl) (Xg.opx_run (.int .i64 (c % n)) rfl (fun _ => Xg.run_rem (k1 := .i64) (m := c) (e := n) (by kernel_rfl) (by kernel_rfl) (by omega) (by omega)) ?_)
      refine Xg.ops_op (by kernel_rfl) (Xg.opx_pure ((iv (c % n))) rfl (fun _ => by kernel_rfl) ?_)
      refine Xg.ops_nil ?_
      refine Xg.at_ret_ps (v := (iv (c % n))) [] [] Go.Proofs.Tryd.func7 (fun _ => by kernel_rfl) (by kernel_rfl) (by kernel_rfl) ?_
      exact ⟨by kernel_rfl, by kernel_rfl⟩)
theorem pick_lt (c n : Int) (hn : 0 < n) : 0 ≤ pickI c n ∧ pickI c n < n := by
  unfold pickI
  split <;> exact ⟨Int.emod_nonneg _ (by omega), Int.emod_lt_of_pos _ hn⟩
/-- What stands at a place of a ROM. -/
def bytI (p s : Int) : Int := (p % 16384 * 13 + p / 16384 * 7 + p / 256 * 3 + s) % 256
theorem wrap_mod (x : Int) : IntKind.i64.wrap x % 256 = x % 256 := by
  have h : IntKind.i64.wrap x = if 9223372036854775808 ≤ x % 18446744073709551616 then x % 18446744073709551616 - 18446744073709551616 else x % 18446744073709551616 := by simp [IntKind.wrap, IntKind.bits, IntKind.signed]
  rw [h]
  split <;> omega
theorem byteAt_d (p s : Int) (hp : 0 ≤ p ∧ p ≤ 4294967296) (hs : -9223372036854775808 ≤ s ∧ s ≤ 9223372036854775807) : Does Tryd.prog 18 [.int .i64 p, .int .i64 s] [] (Ret (.int .u8 (bytI p s)) []) := by
  (focus
    refine Xg.spec_of Go.Proofs.Tryd.func18 rfl Go.Proofs.Tryd.ntmps18 fun g F => ?_)
  (focus
    refine Xg.at_seq ?_
    refine Xg.at_region ?_
    refine Xg.ops_op (by kernel_rfl) (Xg.opx_pure ((uv 0)) rfl (fun _ => by kernel_rfl) ?_)
    refine Xg.ops_nil ?_
    refine Xg.at_seq ?_
    refine Xg.at_region ?_
    refine Xg.ops_op (by kernel_rfl) (Xg.opx_pure ((iv p)) rfl (fun _ => by kernel_rfl) ?_)
    refine Xg.ops_op (by kernel_rfl) (Xg.opx_int .i64 (Int.tmod (p) (((16384 : Int)))) rfl (fun _ => by kernel_rfl) (Xg.rem_mod _ _ (by omega)) ?_)
    refine Xg.ops_op (by kernel_rfl) (Xg.opx_int .i64 (IntKind.wrap .i64 ((p % (16384 : Int) * (13 : Int)))) rfl (fun _ => by kernel_rfl) (Xg.wrap_i64_in (by omega)) ?_)
    refine Xg.ops_op (by kernel_rfl) (Xg.opx_pure ((iv p)) rfl (fun _ => by kernel_rfl) ?_)
    refine Xg.ops_op (by kernel_rfl) (Xg.opx_int .i64 (IntKind.wrap .i64 (Int.tdiv (p) (((16384 : Int))))) rfl (fun _ => by kernel_rfl) (Xg.wrap_i64_quo (by omega)) ?_)
    refine Xg.ops_op (by kernel_rfl) (Xg.opx_int .i64 (IntKind.wrap .i64 ((p / (16384 : Int) * (7 : Int)))) rfl (fun _ => by kernel_rfl) (Xg.wrap_i64_in (by omega)) ?_)
    refine Xg.ops_op (by kernel_rfl) (Xg.opx_int .i64 (IntKind.wrap .i64 ((p % (16384 : Int) * (13 : Int) + p / (16384 : Int) * (7 : Int)))) rfl (fun _ => by kernel_rfl) (Xg.wrap_i64_in (by omega)) ?_)
    refine Xg.ops_op (by kernel_rfl) (Xg.opx_pure ((iv p)) rfl (fun _ => by kernel_rfl) ?_)
    refine Xg.ops_op (by kernel_rfl) (Xg.opx_int .i64 (IntKind.wrap .i64 (Int.tdiv (p) (((256 : Int))))) rfl (fun _ => by kernel_rfl) (Xg.wrap_i64_quo (by omega)) ?_)
    refine Xg.ops_op (by kernel_rfl) (Xg.opx_int .i64 (IntKind.wrap .i64 ((p / (256 : Int) * (3 : Int)))) rfl (fun _ => by kernel_rfl) (Xg.wrap_i64_in (by omega)) ?_)
    refine Xg.ops_op (by kernel_rfl) (Xg.opx_int .i64 (IntKind.wrap .i64 ((p % (16384 : Int) * (13 : Int) + p / (16384 : Int) * (7 : Int) + p / (256 : Int) * (3 : Int)))) rfl (fun _ => by kernel_rfl) (Xg.wrap_i64_in (by omega)) ?_)
    refine Xg.ops_op (by kernel_rfl) (Xg.opx_pure ((iv s)) rfl (fun _ => by kernel_rfl) ?_)
    refine Xg.ops_op (by kernel_rfl) (Xg.opx_pure (.int .i64 (IntKind.wrap .i64 ((p % (16384 : Int) * (13 : Int) + p / (16384 : Int) * (7 : Int) + p / (256 : Int) * (3 : Int) + s)))) rfl (fun _ => by kernel_rfl) ?_)
    refine Xg.ops_op (by kernel_rfl) (Xg.opx_int .u8 (IntKind.wrap .u8 ((IntKind.i64.wrap (p % (16384 : Int) * (13 : Int) + p / (16384 : Int) * (7 : Int) + p / (256 : Int) * (3 : Int) + s)))) rfl (fun _ => by kernel_rfl) (Xg.wrap_u8_mod _) ?_)
    refine Xg.ops_op (by kernel_rfl) (Xg.opx_pure ((uv (IntKind.i64.wrap (p % (16384 : Int) * (13 : Int) + p / (16384 : Int) * (7 : Int) + p / (256 : Int) * (3 : Int) + s) % (256 : Int)))) rfl (fun _ => by kernel_rfl) ?_)
    refine Xg.ops_nil ?_
    refine Xg.at_ret_ps (v := (uv (IntKind.i64.wrap (p % (16384 : Int) * (13 : Int) + p / (16384 : Int) * (7 : Int) + p / (256 : Int) * (3 : Int) + s) % (256 : Int)))) [] [] Go.Proofs.Tryd.func18 (fun _ => by kernel_rfl) (by kernel_rfl) (by kernel_rfl) ?_)
  all_goals (refine ⟨?_, rfl⟩; rw [wrap_mod]; rfl)
theorem lsum_d (A : HP) (a : Option Addr) (n c : Nat) (B : List Int) (hn : B.length = n) (hm : 336 ≤ n) (hm2 : n ≤ 9223372036854775807) (hB : ∀ i, i < n → 0 ≤ B.getD i 0 ∧ B.getD i 0 ≤ 255) (hR : Reads A 1 (.slice a n c) n (B.map (Value.int .u8))) : Does Tryd.prog 19 [.slice a n c] [A] (Ret (.int .u8 ((231 - hsum B 25) % 256)) [A]) := by
  (focus
    refine Xg.spec_of Go.Proofs.Tryd.func19 rfl Go.Proofs.Tryd.ntmps19 fun g F => ?_)
  (focus
    refine Xg.at_seq ?_
    refine Xg.at_region ?_
    refine Xg.ops_op (by kernel_rfl) (Xg.opx_pure ((uv 0)) rfl (fun _ => by kernel_rfl) ?_)
    refine Xg.ops_nil ?_
    refine Xg.at_seq ?_
    refine Xg.at_region ?_
    refine Xg.ops_op (by kernel_rfl) (Xg.opx_pure ((uv 0)) rfl (fun _ => by kernel_rfl) ?_)
    refine Xg.ops_nil ?_
    refine Xg.at_seq ?_
    refine Xg.at_seq ?_
    refine Xg.at_region ?_
    refine Xg.ops_op (by kernel_rfl) (Xg.opx_pure ((iv 308)) rfl (fun _ => by kernel_rfl) ?_)
    refine Xg.ops_nil ?_
    refine Xg.at_block ?_)
  (focus
    refine Xg.at_rounds_inv (α := (Nat × Int) × (Nat → Value)) (fun x => ((fun x => 308 ≤ x.1 ∧ x.1 ≤ 333 ∧ x.2 = (308 - x.1 - hsum B (x.1 - 308)) % 256) : (Nat × Int) → Prop) x.1) (fun x => ((fun x => 333 - x.1) : (Nat × Int) → Nat) x.1) (fun x => Xg.headT [Value.slice a n c, tu, uv 0, uv 0, iv 308, tu, tu, tu, tu, tu, tu, tu, tu, tu, tu, tu, tu] [5, 6, 7, 8, 9, 10, 11, 12, 13, 14, 15] (((fun x => [(4, .int .i64 (x.1 : Nat)), (3, .int .u8 x.2)]) : (Nat × Int) → List (Nat × Go.Value)) x.1) x.2) (fun x => ((fun x => [A]) : (Nat × Int) → List Go.Sl.HP) x.1) (((308, 0)), fun j9 => ([Value.slice a n c, tu, uv 0, uv 0, iv 308, tu, tu, tu, tu, tu, tu, tu, tu, tu, tu, tu, tu] : List Value).getD j9 undef) (by kernel_rfl) (by kernel_rfl) ?_ ?_)
  · exact ⟨Nat.le_refl _, by show (308 : Nat) ≤ 333; decide, rfl⟩
  rintro ⟨⟨i, t⟩, J⟩ hI ih
  obtain ⟨hi0, hi, ht⟩ := hI
  dsimp only at hi0 hi ht
  (focus
    refine Xg.At.same (T' := [Value.slice a n c, tu, uv 0, uv t, iv (↑i : Int), J 5, J 6, J 7, J 8, J 9, J 10, J 11, J 12, J 13, J 14, J 15, tu]) (L' := [A]) (by kernel_rfl) rfl ?_)
  by_cases hlt : i < 333
  · have hb := hB i (by omega)
    have hs : hsum B (i - 308 + 1) = hsum B (i - 308) + B.getD (308 + (i - 308)) 0 := rfl
    rw [show 308 + (i - 308) = i by omega, show i - 308 + 1 = i + 1 - 308 by omega] at hs
    (focus
      refine Xg.at_seq ?_
      refine Xg.at_seq ?_
      refine Xg.at_region ?_
      refine Xg.ops_op (by kernel_rfl) (Xg.opx_pure ((iv (↑i : Int))) rfl (fun _ => by kernel_rfl) ?_)
      refine Xg.ops_op (by kernel_rfl) (Xg.opx_pure (.bool (decide ((((↑i : Int)) : Int) ≤ ((332 : Int))))) rfl (fun _ => by kernel_rfl) ?_)
      refine Xg.ops_nil ?_
      refine Xg.at_true (t := decide (((↑i : Int) ≤ (332 : Int)))) (by kernel_rfl) (decide_eq_true (by omega)) ?_
      refine Xg.at_skip ?_
      refine Xg.at_seq ?_
      refine Xg.at_block ?_
      refine Xg.at_region ?_
      refine Xg.ops_op (by kernel_rfl) (Xg.opx_pure ((uv t)) rfl (fun _ => by kernel_rfl) ?_)
      refine Xg.ops_op (by kernel_rfl) (Xg.opx_pure ((Value.slice a n c)) rfl (fun _ => by kernel_rfl) ?_)
      refine Xg.ops_op (by kernel_rfl) (Xg.opx_pure ((iv (↑i : Int))) rfl (fun _ => by kernel_rfl) ?_)
      refine Xg.ops_op (by kernel_rfl) (Xg.opx_rd 0 (.pointer (some (Addr.mk (Xg.blk a) (offA a + i) none))) rfl hR (by kernel_rfl) (Xg.run_ix_rd (elem := 5) (kd := .i64) (e := ((↑i : Int))) 1 i (offA a + i) (by kernel_rfl) (by kernel_rfl) (by kernel_rfl) (by kernel_rfl) rfl (by omega) (by simp only [List.length_map]; omega) (by omega)) ?_)
      refine Xg.ops_op (by kernel_rfl) (Xg.opx_rd 0 (uv (B.getD i (0 : Int))) rfl hR (by kernel_rfl) (Xg.run_load_rd (off0 := (offA a + i)) i (by kernel_rfl) (by omega) (Xg.get_ints (by omega)) (by kernel_rfl)) ?_)
      refine Xg.ops_op (by kernel_rfl) (Xg.opx_int .u8 (IntKind.wrap .u8 ((t - B.getD i (0 : Int)))) rfl (fun _ => by kernel_rfl) (Xg.wrap_u8_mod _) ?_)
      refine Xg.ops_op (by kernel_rfl) (Xg.opx_int .u8 (IntKind.wrap .u8 (((t - B.getD i (0 : Int)) % (256 : Int) - (1 : Int)))) rfl (fun _ => by kernel_rfl) (Xg.wrap_u8_mod _) ?_)
      refine Xg.ops_op (by kernel_rfl) (Xg.opx_pure ((uv (((t - B.getD i (0 : Int)) % (256 : Int) - (1 : Int)) % (256 : Int)))) rfl (fun _ => by kernel_rfl) ?_)
      refine Xg.ops_nil ?_
      refine Xg.at_inBlock ?_
      refine Xg.at_region ?_
      refine Xg.ops_op (by kernel_rfl) (Xg.opx_pure ((iv (↑i : Int))) rfl (fun _ => by kernel_rfl) ?_)
      refine Xg.ops_op (by kernel_rfl) (Xg.opx_int .i64 (IntKind.wrap .i64 (((↑i : Int) + (1 : Int)))) rfl (fun _ => by kernel_rfl) (Xg.wrap_i64_in (by omega)) ?_)
      refine Xg.ops_op (by kernel_rfl) (Xg.opx_pure ((iv ((↑i : Int) + (1 : Int)))) rfl (fun _ => by kernel_rfl) ?_)
      refine Xg.ops_nil ?_
      refine Xg.at_inLoop ?_)
    (focus
      refine Xg.at_keep [0] (by kernel_rfl) ?_
      refine Xs.same ?_ (fun J9 => ih (((i + 1, ((t - B.getD i 0) % 256 - 1) % 256)), J9) ?_ ?_) (by kernel_rfl))
    · rfl
    · exact ⟨by show 308 ≤ i + 1; omega, hlt, by show ((t - B.getD i 0) % 256 - 1) % 256 = (308 - ((i + 1 : Nat) : Int) - hsum B (i + 1 - 308)) % 256; omega⟩
    · show 333 - (i + 1) < 333 - i; omega
  · obtain rfl : i = 333 := by omega
    (focus
      refine Xg.at_seq ?_
      refine Xg.at_seq ?_
      refine Xg.at_region ?_
      refine Xg.ops_op (by kernel_rfl) (Xg.opx_pure ((iv 333)) rfl (fun _ => by kernel_rfl) ?_)
      refine Xg.ops_op (by kernel_rfl) (Xg.opx_pure ((Value.bool false)) rfl (fun _ => by kernel_rfl) ?_)
      refine Xg.ops_nil ?_
      refine Xg.at_false (t := false) (by kernel_rfl) rfl ?_
      refine Xg.at_exit rfl ?_
      refine Xg.at_seq ?_
      refine Xg.at_region ?_
      refine Xg.ops_op (by kernel_rfl) (Xg.opx_pure ((uv t)) rfl (fun _ => by kernel_rfl) ?_)
      refine Xg.ops_op (by kernel_rfl) (Xg.opx_pure ((uv t)) rfl (fun _ => by kernel_rfl) ?_)
      refine Xg.ops_nil ?_
      refine Xg.at_ret_ps (v := (uv t)) [0] [A] Go.Proofs.Tryd.func19 (fun _ => by kernel_rfl) (by kernel_rfl) (by kernel_rfl) ?_)
    all_goals (refine ⟨?_, rfl⟩; congr 1; rw [show (333 : Nat) - 308 = 25 from rfl] at ht; omega)
end Go.Proofs.YthjhkondmobaeaaDoor

/- cart: the ROM that a box makes. -/
namespace Go.Proofs.YthjhkondmobaeaaDoor
open Go.Sl Go.Xg
set_option linter.unusedVariables false
set_option linter.unusedSimpArgs false
set_option maxHeartbeats 4000000
set_option maxRecDepth 100000

abbrev iok (x : Int) : Prop := -9223372036854775808 ≤ x ∧ x ≤ 9223372036854775807
def bnkC (c : Int) : Int := 2 * 2 ^ c.toNat
theorem shl_box {c : Int} (h : 0 ≤ c ∧ c < 7) : IntKind.wrap .i64 ((32768 : Int) * 2 ^ min (Int.toNat c) (IntKind.bits .i64)) = 16384 * bnkC c ∧ 2 ≤ bnkC c ∧ bnkC c ≤ 128 := by
  rcases (show c = 0 ∨ c = 1 ∨ c = 2 ∨ c = 3 ∨ c = 4 ∨ c = 5 ∨ c = 6 by omega) with e | e | e | e | e | e | e <;> subst e <;> exact ⟨by decide, by decide, by decide⟩
def morI (m : Int) : Int := if m = 0 then 0 else pickI m 600 - 300
/-- The list with one byte of it set. -/
theorem getD_set (xs : List Int) (i k : Nat) (v : Int) (h : i < xs.length) : (xs.set i v).getD k 0 = if k = i then v else xs.getD k 0 := by
  simp only [List.getD_eq_getElem?_getD, List.getElem?_set]
  by_cases e : i = k
  · subst e; simp [h]
  · rw [if_neg e, if_neg (fun q => e q.symm)]
theorem isB_set {xs : List Int} (i : Nat) {v : Int} (h : isB xs) (hv : 0 ≤ v ∧ v ≤ 255) : isB (xs.set i v) := fun x hx => by
  rcases List.mem_or_eq_of_mem_set hx with h1 | h1
  · exact h x h1
  · subst h1; exact hv
theorem isB_rep (n : Nat) : isB (List.replicate n 0) := fun x hx => by
  rw [(List.mem_replicate.1 hx).2]; decide
theorem bytI_ok (p s : Int) : 0 ≤ bytI p s ∧ bytI p s ≤ 255 := by unfold bytI; omega
theorem mkI_ok (i : Nat) : 0 ≤ mkI i ∧ mkI i ≤ 255 := by unfold mkI; omega
/-- A box's ROM ahead of what is laid over it and of the sum. -/
def romP (t rc rr sd : Int) (k : Nat) : Int := if 260 ≤ k ∧ k < 308 then mkI (k - 260) else if k = 308 then 65 + pickI sd 26 else if k = 309 then 98 else if 308 ≤ k ∧ k ≤ 323 then 0 else if k = 327 then t % 256 else if k = 328 then rc % 256 else if k = 329 then rr % 256 else bytI k sd
abbrev bts (a : Option Addr) (n c : Nat) (xs : List Int) : HP := ownS 5 1 (.slice a n c) n (xs.map (Value.int .u8))
theorem isB_of {xs : List Int} (h : ∀ i, i < xs.length → 0 ≤ xs.getD i 0 ∧ xs.getD i 0 ≤ 255) : isB xs := fun x hx => by
  obtain ⟨k, hk, e⟩ := List.getElem_of_mem hx
  have := h k hk
  rw [List.getD_eq_getElem?_getD, List.getElem?_eq_getElem hk] at this
  rw [← e]; exact this
theorem set_romP (t rc rr sd : Int) (zs : List Int) (n : Nat) (hn : 336 ≤ n) (hl : zs.length = n) (hB : isB zs) (hf : ∀ k, k < n → zs.getD k 0 = if 260 ≤ k ∧ k < 308 then mkI (k - 260) else if 308 ≤ k ∧ k < 323 then 0 else bytI k sd) :
    ((((((zs.set 308 (65 + pickI sd 26)).set 309 98).set 323 0).set 327 (t % 256)).set 328 (rc % 256)).set 329 (rr % 256)).length = n ∧ isB ((((((zs.set 308 (65 + pickI sd 26)).set 309 98).set 323 0).set 327 (t % 256)).set 328 (rc % 256)).set 329 (rr % 256)) ∧ ∀ k, k < n → ((((((zs.set 308 (65 + pickI sd 26)).set 309 98).set 323 0).set 327 (t % 256)).set 328 (rc % 256)).set 329 (rr % 256)).getD k 0 = romP t rc rr sd k := by
  have hp := pick_lt sd 26 (by decide)
  refine ⟨by simp only [List.length_set]; exact hl, isB_set _ (isB_set _ (isB_set _ (isB_set _ (isB_set _ (isB_set _ hB (by omega)) (by omega)) (by omega)) (by omega)) (by omega)) (by omega), fun k hk => ?_⟩
  have L : ∀ (xs : List Int) i v, (xs.set i v).length = xs.length := fun xs i v => List.length_set
  rw [getD_set _ _ _ _ (by simp only [L]; omega), getD_set _ _ _ _ (by simp only [L]; omega), getD_set _ _ _ _ (by simp only [L]; omega), getD_set _ _ _ _ (by simp only [L]; omega), getD_set _ _ _ _ (by simp only [L]; omega), getD_set _ _ _ _ (by omega), hf k hk]
  unfold romP
  by_cases h1 : k = 329
  · subst h1; rfl
  rw [if_neg h1]
  by_cases h2 : k = 328
  · subst h2; rfl
  rw [if_neg h2]
  by_cases h3 : k = 327
  · subst h3; rfl
  rw [if_neg h3]
  by_cases h4 : k = 323
  · subst h4; rfl
  rw [if_neg h4]
  by_cases h5 : k = 309
  · subst h5; rfl
  rw [if_neg h5]
  by_cases h6 : k = 308
  · subst h6; rfl
  rw [if_neg h6]
  by_cases h7 : 260 ≤ k ∧ k < 308
  · rw [if_pos h7, if_pos h7]
  rw [if_neg h7, if_neg h7, if_neg h6, if_neg h5]
  by_cases h8 : 308 ≤ k ∧ k < 323
  · rw [if_pos h8, if_pos (by omega)]
  · rw [if_neg h8, if_neg (by omega), if_neg h3, if_neg h2, if_neg h1]
theorem hsum_set (xs : List Int) (v : Int) (m : Nat) (hm : m ≤ 25) (hl : 336 ≤ xs.length) : hsum (xs.set 333 v) m = hsum xs m := by
  induction m with
  | zero => rfl
  | succ i ih =>
    show hsum (xs.set 333 v) i + (xs.set 333 v).getD (308 + i) 0 = hsum xs i + xs.getD (308 + i) 0
    rw [ih (by omega), getD_set _ _ _ _ (by omega), if_neg (by omega)]
theorem rom_d (A : HP) (t rc rr sd mo : Int) (P Q : List Int) (pa qa : Option Addr) (np pc nq qc n : Nat) (ht : iok t) (hrc : iok rc) (hrr : iok rr) (hsd : iok sd) (hmo : iok mo) (hP : P.length = np) (hQ : Q.length = nq) (hnp : np ≤ maxLen) (hnq : nq ≤ maxLen) (hPo : ∀ i, i < np → iok (P.getD i 0)) (hQo : ∀ i, i < nq → iok (Q.getD i 0))
    (hRP : Reads A 1 (.slice pa np pc) np (P.map (Value.int .i64))) (hRQ : Reads A 1 (.slice qa nq qc) nq (Q.map (Value.int .i64))) (hn : (n : Int) = 16384 * bnkC (pickI rc 7) + morI mo) :
    Does Tryd.prog 8 [.agg #[.int .i64 t, .int .i64 rc, .int .i64 rr, .int .i64 sd, .int .i64 mo, .slice pa np pc, .slice qa nq qc, .bool false]] [A] (RetE (fun x : Option Addr × List Int => x.2.length = n ∧ isB x.2 ∧ (231 - hsum x.2 25) % 256 = x.2.getD 333 0 ∧ (np = 0 → ∀ k, k ≠ 333 → k < n → x.2.getD k 0 = romP t rc rr sd k)) (fun x => .slice x.1 n n) (fun x => [bts x.1 n n x.2, A])) := by
  have hml : maxLen = 9223372036854775807 := by unfold maxLen; decide
  have hp7 := pick_lt rc 7 (by decide)
  have hp6 := pick_lt mo 600 (by decide)
  have hp26 := pick_lt sd 26 (by decide)
  obtain ⟨hs1, hs2, hs3⟩ := shl_box hp7
  have hd7 := pick_d rc 7 hrc (by decide)
  have hd6 := pick_d mo 600 hmo (by decide)
  have hd26 := pick_d sd 26 hsd (by decide)
  obtain ⟨bk, hbk⟩ : ∃ bk, bnkC (pickI rc 7) = bk := ⟨_, rfl⟩
  rw [hbk] at hs1 hs2 hs3 hn
  obtain ⟨r7, hr7⟩ : ∃ r7, pickI rc 7 = r7 := ⟨_, rfl⟩
  rw [hr7] at hs1 hp7 hd7
  have hnl : 32468 ≤ n ∧ n ≤ 2097451 := by
    unfold morI at hn
    split at hn <;> omega
  (focus
    refine Xg.spec_of Go.Proofs.Tryd.func8 rfl Go.Proofs.Tryd.ntmps8 fun g F => ?_)
  (focus
    refine Xg.at_seq ?_
    refine Xg.at_region ?_
    refine Xg.ops_op (by kernel_rfl) (Xg.opx_box (v := (Value.agg #[iv t, iv rc, iv rr, iv sd, iv mo, Value.slice pa np pc, Value.slice qa nq qc, Value.bool false])) [iv t, iv rc, iv rr, iv sd, iv mo, Value.slice pa np pc, Value.slice qa nq qc, Value.bool false] (by kernel_rfl) (by kernel_rfl) fun xb1 => ?_)
    refine Xg.ops_op (by kernel_rfl) (Xg.opx_pure ((Value.slice none (0 : Nat) (0 : Nat))) rfl (fun _ => by kernel_rfl) ?_)
    refine Xg.ops_nil ?_
    refine Xg.at_seq ?_
    refine Xg.at_region ?_
    refine Xg.ops_op (by kernel_rfl) (Xg.opx_pure ((pv xb1 1)) rfl (fun _ => by kernel_rfl) ?_)
    refine Xg.ops_op (by kernel_rfl) (Xg.opx_load (b := xb1) (off := ((1 : Nat))) 0 (iv rc) rfl (by kernel_rfl) (by kernel_rfl) (by kernel_rfl) ?_)
    refine Xg.ops_op (by kernel_rfl) (Xg.opx_call1' [] [row xb1 (26 : Nat) [iv t, iv rc, iv rr, iv sd, iv mo, Value.slice pa np pc, Value.slice qa nq qc, Value.bool false], A] (fun _ => by kernel_rfl) (@hd7 ) (by kernel_rfl) (by kernel_rfl) (by kernel_rfl) ?_)
    refine Xg.ops_op (by kernel_rfl) (Xg.opx_run (.int .i64 (IntKind.wrap .i64 (((32768 : Int)) * 2 ^ min (Int.toNat r7) (IntKind.bits .i64)))) rfl (fun _ => Xg.run_shl (k1 := .i64) (k2 := .i64) (m := ((32768 : Int))) (e := r7) (by kernel_rfl) (by kernel_rfl) (by omega)) ?_)
    refine Xg.ops_op (by kernel_rfl) (Xg.opx_pure ((iv (IntKind.i64.wrap ((32768 : Int) * (2 : Int) ^ min r7.toNat IntKind.i64.bits)))) rfl (fun _ => by kernel_rfl) ?_)
    refine Xg.ops_nil ?_
    refine Xg.at_seq ?_
    refine Xg.at_seq ?_
    refine Xg.at_region ?_
    refine Xg.ops_op (by kernel_rfl) (Xg.opx_pure ((pv xb1 4)) rfl (fun _ => by kernel_rfl) ?_)
    refine Xg.ops_op (by kernel_rfl) (Xg.opx_load (b := xb1) (off := ((4 : Nat))) 0 (iv mo) rfl (by kernel_rfl) (by kernel_rfl) (by kernel_rfl) ?_)
    refine Xg.ops_op (by kernel_rfl) (Xg.opx_pure (.bool (!decide ((mo : Int) = ((0 : Int))))) rfl (fun _ => by kernel_rfl) ?_)
    refine Xg.ops_nil ?_)
  (focus
    refine Xg.at_cut (α := (Int) × (Nat → Value)) (fun x9 => ((fun m => m = (n : Int)) : (Int) → Prop) x9.1) (fun x9 => Xg.headT [Value.agg #[iv t, iv rc, iv rr, iv sd, iv mo, Value.slice pa np pc, Value.slice qa nq qc, Value.bool false], pv xb1 0, Value.slice none (0 : Nat) (0 : Nat), iv (IntKind.i64.wrap ((32768 : Int) * (2 : Int) ^ min r7.toNat IntKind.i64.bits)), tu, tu, tu, tu, tu, pv xb1 1, iv rc, iv r7, iv (IntKind.i64.wrap ((32768 : Int) * (2 : Int) ^ min r7.toNat IntKind.i64.bits)), pv xb1 4, iv mo, Value.bool !decide (mo = (0 : Int)), tu, tu, tu, tu, tu, tu, tu, tu, tu, tu, tu, tu, tu, tu, tu, tu, tu, tu, tu, tu, tu, tu, tu, tu, tu, tu, tu, tu, tu, tu, tu, tu, tu, tu, tu, tu, tu, tu, tu, tu, tu, tu, tu, tu, tu, tu, tu, tu, tu, tu, tu, tu, tu, tu, tu, tu, tu, tu, tu, tu, tu, tu, tu, tu, tu, tu, tu, tu, tu, tu, tu, tu, tu, tu, tu, tu, tu, tu, tu, tu, tu, tu, tu, tu, tu, tu, tu, tu, tu, tu, tu, tu, tu, tu, tu, tu, tu, tu, tu, tu, tu, tu, tu, tu, tu, tu, tu, tu, tu, tu, tu, tu, tu, tu, tu, tu, tu, tu] [16, 17, 18, 19, 20, 21] (((fun m => [(3, .int .i64 m)]) : (Int) → List (Nat × Go.Value)) x9.1) x9.2) (fun x9 => ((fun m => [row xb1 26 [.int .i64 t, .int .i64 rc, .int .i64 rr, .int .i64 sd, .int .i64 mo, .slice pa np pc, .slice qa nq qc, .bool false], A]) : (Int) → List Go.Sl.HP) x9.1) (fun kk hk => ?_) ?_)
  · unfold morI at hn
    by_cases hm0 : mo = 0
    · rw [if_pos hm0] at hn
      (focus
        refine Xg.at_false (t := !decide ((mo = (0 : Int)))) (by kernel_rfl) (by rw [decide_eq_true (by omega)]; rfl) ?_
        refine Xg.at_skip ?_)
      (focus
        refine Xg.at_keep [0, 1] (by kernel_rfl) ?_
        refine Xg.At.same (by kernel_rfl) ?_ (hk (((IntKind.wrap .i64 ((32768 : Int) * 2 ^ min (Int.toNat r7) (IntKind.bits .i64)))), fun j9 => ([Value.agg #[iv t, iv rc, iv rr, iv sd, iv mo, Value.slice pa np pc, Value.slice qa nq qc, Value.bool false], pv xb1 0, Value.slice none (0 : Nat) (0 : Nat), iv (IntKind.i64.wrap ((32768 : Int) * (2 : Int) ^ min r7.toNat IntKind.i64.bits)), tu, tu, tu, tu, tu, pv xb1 1, iv rc, iv r7, iv (IntKind.i64.wrap ((32768 : Int) * (2 : Int) ^ min r7.toNat IntKind.i64.bits)), pv xb1 4, iv mo, Value.bool !decide (mo = (0 : Int)), tu, tu, tu, tu, tu, tu, tu, tu, tu, tu, tu, tu, tu, tu, tu, tu, tu, tu, tu, tu, tu, tu, tu, tu, tu, tu, tu, tu, tu, tu, tu, tu, tu, tu, tu, tu, tu, tu, tu, tu, tu, tu, tu, tu, tu, tu, tu, tu, tu, tu, tu, tu, tu, tu, tu, tu, tu, tu, tu, tu, tu, tu, tu, tu, tu, tu, tu, tu, tu, tu, tu, tu, tu, tu, tu, tu, tu, tu, tu, tu, tu, tu, tu, tu, tu, tu, tu, tu, tu, tu, tu, tu, tu, tu, tu, tu, tu, tu, tu, tu, tu, tu, tu, tu, tu, tu, tu, tu, tu, tu, tu, tu, tu, tu, tu, tu, tu, tu] : List Value).getD j9 undef) ?_))
      · rfl
      · show _ = (n : Int); rw [hs1]; omega
    · rw [if_neg hm0] at hn
      (focus
        refine Xg.at_true (t := !decide ((mo = (0 : Int)))) (by kernel_rfl) (by rw [decide_eq_false (by omega)]; rfl) ?_
        refine Xg.at_region ?_
        refine Xg.ops_op (by kernel_rfl) (Xg.opx_pure ((iv (IntKind.i64.wrap ((32768 : Int) * (2 : Int) ^ min r7.toNat IntKind.i64.bits)))) rfl (fun _ => by kernel_rfl) ?_)
        refine Xg.ops_op (by kernel_rfl) (Xg.opx_pure ((pv xb1 4)) rfl (fun _ => by kernel_rfl) ?_)
        refine Xg.ops_op (by kernel_rfl) (Xg.opx_load (b := xb1) (off := ((4 : Nat))) 0 (iv mo) rfl (by kernel_rfl) (by kernel_rfl) (by kernel_rfl) ?_)
        refine Xg.ops_op (by kernel_rfl) (Xg.opx_call1' [] [row xb1 (26 : Nat) [iv t, iv rc, iv rr, iv sd, iv mo, Value.slice pa np pc, Value.slice qa nq qc, Value.bool false], A] (fun _ => by kernel_rfl) (@hd6 ) (by kernel_rfl) (by kernel_rfl) (by kernel_rfl) ?_)
        refine Xg.ops_op (by kernel_rfl) (Xg.opx_int .i64 (IntKind.wrap .i64 ((IntKind.i64.wrap ((32768 : Int) * (2 : Int) ^ min r7.toNat IntKind.i64.bits) + pickI mo (600 : Int)))) rfl (fun _ => by kernel_rfl) (Xg.wrap_i64_in (by omega)) ?_)
        refine Xg.ops_op (by kernel_rfl) (Xg.opx_int .i64 (IntKind.wrap .i64 ((IntKind.i64.wrap ((32768 : Int) * (2 : Int) ^ min r7.toNat IntKind.i64.bits) + pickI mo (600 : Int) - (300 : Int)))) rfl (fun _ => by kernel_rfl) (Xg.wrap_i64_in (by omega)) ?_)
        refine Xg.ops_op (by kernel_rfl) (Xg.opx_pure ((iv (IntKind.i64.wrap ((32768 : Int) * (2 : Int) ^ min r7.toNat IntKind.i64.bits) + pickI mo (600 : Int) - (300 : Int)))) rfl (fun _ => by kernel_rfl) ?_)
        refine Xg.ops_nil ?_)
      (focus
        refine Xg.at_keep [0, 1] (by kernel_rfl) ?_
        refine Xg.At.same (by kernel_rfl) ?_ (hk (((IntKind.wrap .i64 ((32768 : Int) * 2 ^ min (Int.toNat r7) (IntKind.bits .i64)) + pickI mo 600 - 300)), fun j9 => ([Value.agg #[iv t, iv rc, iv rr, iv sd, iv mo, Value.slice pa np pc, Value.slice qa nq qc, Value.bool false], pv xb1 0, Value.slice none (0 : Nat) (0 : Nat), iv (IntKind.i64.wrap ((32768 : Int) * (2 : Int) ^ min r7.toNat IntKind.i64.bits) + pickI mo (600 : Int) - (300 : Int)), tu, tu, tu, tu, tu, pv xb1 1, iv rc, iv r7, iv (IntKind.i64.wrap ((32768 : Int) * (2 : Int) ^ min r7.toNat IntKind.i64.bits)), pv xb1 4, iv mo, Value.bool !decide (mo = (0 : Int)), iv (IntKind.i64.wrap ((32768 : Int) * (2 : Int) ^ min r7.toNat IntKind.i64.bits)), pv xb1 4, iv mo, iv (pickI mo (600 : Int)), iv (IntKind.i64.wrap ((32768 : Int) * (2 : Int) ^ min r7.toNat IntKind.i64.bits) + pickI mo (600 : Int)), iv (IntKind.i64.wrap ((32768 : Int) * (2 : Int) ^ min r7.toNat IntKind.i64.bits) + pickI mo (600 : Int) - (300 : Int)), tu, tu, tu, tu, tu, tu, tu, tu, tu, tu, tu, tu, tu, tu, tu, tu, tu, tu, tu, tu, tu, tu, tu, tu, tu, tu, tu, tu, tu, tu, tu, tu, tu, tu, tu, tu, tu, tu, tu, tu, tu, tu, tu, tu, tu, tu, tu, tu, tu, tu, tu, tu, tu, tu, tu, tu, tu, tu, tu, tu, tu, tu, tu, tu, tu, tu, tu, tu, tu, tu, tu, tu, tu, tu, tu, tu, tu, tu, tu, tu, tu, tu, tu, tu, tu, tu, tu, tu, tu, tu, tu, tu, tu, tu, tu, tu, tu, tu, tu, tu, tu, tu, tu, tu, tu, tu, tu, tu, tu, tu, tu, tu] : List Value).getD j9 undef) ?_))
      · rfl
      · show _ = (n : Int); rw [hs1]; omega
  rintro ⟨m, J0⟩ h
  dsimp only at h
  subst h
  (focus
    refine Xg.At.same (T' := [Value.agg #[iv t, iv rc, iv rr, iv sd, iv mo, Value.slice pa np pc, Value.slice qa nq qc, Value.bool false], pv xb1 0, Value.slice none (0 : Nat) (0 : Nat), iv (↑n : Int), tu, tu, tu, tu, tu, pv xb1 1, iv rc, iv r7, iv (IntKind.i64.wrap ((32768 : Int) * (2 : Int) ^ min r7.toNat IntKind.i64.bits)), pv xb1 4, iv mo, Value.bool !decide (mo = (0 : Int)), J0 16, J0 17, J0 18, J0 19, J0 20, J0 21, tu, tu, tu, tu, tu, tu, tu, tu, tu, tu, tu, tu, tu, tu, tu, tu, tu, tu, tu, tu, tu, tu, tu, tu, tu, tu, tu, tu, tu, tu, tu, tu, tu, tu, tu, tu, tu, tu, tu, tu, tu, tu, tu, tu, tu, tu, tu, tu, tu, tu, tu, tu, tu, tu, tu, tu, tu, tu, tu, tu, tu, tu, tu, tu, tu, tu, tu, tu, tu, tu, tu, tu, tu, tu, tu, tu, tu, tu, tu, tu, tu, tu, tu, tu, tu, tu, tu, tu, tu, tu, tu, tu, tu, tu, tu, tu, tu, tu, tu, tu, tu, tu, tu, tu, tu, tu, tu, tu, tu, tu, tu, tu]) (L' := [row xb1 (26 : TypeId) [iv t, iv rc, iv rr, iv sd, iv mo, Value.slice pa np pc, Value.slice qa nq qc, Value.bool false], A]) (by kernel_rfl) rfl ?_)
  (focus
    refine Xg.at_seq ?_
    refine Xg.at_region ?_
    refine Xg.ops_op (by kernel_rfl) (Xg.opx_pure ((iv (↑n : Int))) rfl (fun _ => by kernel_rfl) ?_)
    refine Xg.ops_op (by kernel_rfl) (Xg.opx_make_hid (elem := 5) (kd := .u8) (by_ := 1) (k1 := .i64) (k2 := .i64) (n := ((↑n : Int))) (c := ((↑n : Int))) n n (by kernel_rfl) (by kernel_rfl) (by kernel_rfl) (by kernel_rfl) rfl rfl (by omega) (by omega) fun xa1 xs1 xh1 xl1 xz1 => ?_)
    refine Xg.ops_op (by kernel_rfl) (Xg.opx_pure ((Value.slice xa1 xs1.length n)) rfl (fun _ => by kernel_rfl) ?_)
    refine Xg.ops_nil ?_
    refine Xg.at_seq ?_
    refine Xg.at_seq ?_
    refine Xg.at_region ?_
    refine Xg.ops_op (by kernel_rfl) (Xg.opx_pure ((iv 0)) rfl (fun _ => by kernel_rfl) ?_)
    refine Xg.ops_nil ?_
    refine Xg.at_block ?_)
  have hB1 : isB xs1 := isB_of fun i hi => by rw [xz1]; decide
  unfold Xg.ints
  rw [xl1]
  (focus
    refine Xg.at_rounds_inv (α := (Nat × List Int) × (Nat → Value)) (fun x => ((fun x => x.1 ≤ n ∧ x.2.length = n ∧ isB x.2 ∧ ∀ k, k < x.1 → x.2.getD k 0 = bytI k sd) : (Nat × List Int) → Prop) x.1) (fun x => ((fun x => n - x.1) : (Nat × List Int) → Nat) x.1) (fun x => Xg.headT [Value.agg #[iv t, iv rc, iv rr, iv sd, iv mo, Value.slice pa np pc, Value.slice qa nq qc, Value.bool false], pv xb1 0, Value.slice none (0 : Nat) (0 : Nat), iv (↑n : Int), Value.slice xa1 n n, iv 0, tu, tu, tu, pv xb1 1, iv rc, iv r7, iv (IntKind.i64.wrap ((32768 : Int) * (2 : Int) ^ min r7.toNat IntKind.i64.bits)), pv xb1 4, iv mo, Value.bool !decide (mo = (0 : Int)), J0 16, J0 17, J0 18, J0 19, J0 20, J0 21, iv (↑n : Int), Value.slice xa1 n n, tu, tu, tu, tu, tu, tu, tu, tu, tu, tu, tu, tu, tu, tu, tu, tu, tu, tu, tu, tu, tu, tu, tu, tu, tu, tu, tu, tu, tu, tu, tu, tu, tu, tu, tu, tu, tu, tu, tu, tu, tu, tu, tu, tu, tu, tu, tu, tu, tu, tu, tu, tu, tu, tu, tu, tu, tu, tu, tu, tu, tu, tu, tu, tu, tu, tu, tu, tu, tu, tu, tu, tu, tu, tu, tu, tu, tu, tu, tu, tu, tu, tu, tu, tu, tu, tu, tu, tu, tu, tu, tu, tu, tu, tu, tu, tu, tu, tu, tu, tu, tu, tu, tu, tu, tu, tu, tu, tu, tu, tu] [24, 25, 26, 27, 28, 29, 30, 31, 32, 33, 34, 35] (((fun x => [(5, .int .i64 (x.1 : Nat))]) : (Nat × List Int) → List (Nat × Go.Value)) x.1) x.2) (fun x => ((fun x => [bts xa1 n n x.2, row xb1 26 [.int .i64 t, .int .i64 rc, .int .i64 rr, .int .i64 sd, .int .i64 mo, .slice pa np pc, .slice qa nq qc, .bool false], A]) : (Nat × List Int) → List Go.Sl.HP) x.1) (((0, xs1)), fun j9 => ([Value.agg #[iv t, iv rc, iv rr, iv sd, iv mo, Value.slice pa np pc, Value.slice qa nq qc, Value.bool false], pv xb1 0, Value.slice none (0 : Nat) (0 : Nat), iv (↑n : Int), Value.slice xa1 n n, iv 0, tu, tu, tu, pv xb1 1, iv rc, iv r7, iv (IntKind.i64.wrap ((32768 : Int) * (2 : Int) ^ min r7.toNat IntKind.i64.bits)), pv xb1 4, iv mo, Value.bool !decide (mo = (0 : Int)), J0 16, J0 17, J0 18, J0 19, J0 20, J0 21, iv (↑n : Int), Value.slice xa1 n n, tu, tu, tu, tu, tu, tu, tu, tu, tu, tu, tu, tu, tu, tu, tu, tu, tu, tu, tu, tu, tu, tu, tu, tu, tu, tu, tu, tu, tu, tu, tu, tu, tu, tu, tu, tu, tu, tu, tu, tu, tu, tu, tu, tu, tu, tu, tu, tu, tu, tu, tu, tu, tu, tu, tu, tu, tu, tu, tu, tu, tu, tu, tu, tu, tu, tu, tu, tu, tu, tu, tu, tu, tu, tu, tu, tu, tu, tu, tu, tu, tu, tu, tu, tu, tu, tu, tu, tu, tu, tu, tu, tu, tu, tu, tu, tu, tu, tu, tu, tu, tu, tu, tu, tu, tu, tu, tu, tu, tu, tu] : List Value).getD j9 undef) (by kernel_rfl) (by kernel_rfl) ?_ ?_)
  · exact ⟨Nat.zero_le _, xl1, hB1, fun k hk => absurd hk (Nat.not_lt_zero _)⟩
  rintro ⟨⟨i, xs⟩, J1⟩ hI ih
  obtain ⟨hi, hl, hB, hf⟩ := hI
  dsimp only at hi hl hB hf
  (focus
    refine Xg.At.same (T' := [Value.agg #[iv t, iv rc, iv rr, iv sd, iv mo, Value.slice pa np pc, Value.slice qa nq qc, Value.bool false], pv xb1 0, Value.slice none (0 : Nat) (0 : Nat), iv (↑n : Int), Value.slice xa1 n n, iv (↑i : Int), tu, tu, tu, pv xb1 1, iv rc, iv r7, iv (IntKind.i64.wrap ((32768 : Int) * (2 : Int) ^ min r7.toNat IntKind.i64.bits)), pv xb1 4, iv mo, Value.bool !decide (mo = (0 : Int)), J0 16, J0 17, J0 18, J0 19, J0 20, J0 21, iv (↑n : Int), Value.slice xa1 n n, J1 24, J1 25, J1 26, J1 27, J1 28, J1 29, J1 30, J1 31, J1 32, J1 33, J1 34, J1 35, tu, tu, tu, tu, tu, tu, tu, tu, tu, tu, tu, tu, tu, tu, tu, tu, tu, tu, tu, tu, tu, tu, tu, tu, tu, tu, tu, tu, tu, tu, tu, tu, tu, tu, tu, tu, tu, tu, tu, tu, tu, tu, tu, tu, tu, tu, tu, tu, tu, tu, tu, tu, tu, tu, tu, tu, tu, tu, tu, tu, tu, tu, tu, tu, tu, tu, tu, tu, tu, tu, tu, tu, tu, tu, tu, tu, tu, tu, tu, tu, tu, tu, tu, tu, tu, tu, tu, tu, tu, tu, tu, tu, tu, tu, tu, tu, tu, tu]) (L' := [bts xa1 n n ((i, xs), J1).fst.snd, row xb1 (26 : TypeId) [iv t, iv rc, iv rr, iv sd, iv mo, Value.slice pa np pc, Value.slice qa nq qc, Value.bool false], A]) (by kernel_rfl) rfl ?_)
  by_cases hlt : i < n
  · have hby := byteAt_d i sd (by omega) hsd
    have hbo := bytI_ok i sd
    (focus
      refine Xg.at_seq ?_
      refine Xg.at_seq ?_
      refine Xg.at_region ?_
      refine Xg.ops_op (by kernel_rfl) (Xg.opx_pure ((iv (↑i : Int))) rfl (fun _ => by kernel_rfl) ?_)
      refine Xg.ops_op (by kernel_rfl) (Xg.opx_pure ((iv (↑n : Int))) rfl (fun _ => by kernel_rfl) ?_)
      refine Xg.ops_op (by kernel_rfl) (Xg.opx_pure (.bool (decide ((((↑i : Int)) : Int) < ((↑n : Int))))) rfl (fun _ => by kernel_rfl) ?_)
      refine Xg.ops_nil ?_
      refine Xg.at_true (t := decide (((↑i : Int) < (↑n : Int)))) (by kernel_rfl) (decide_eq_true (by omega)) ?_
      refine Xg.at_skip ?_
      refine Xg.at_seq ?_
      refine Xg.at_block ?_
      refine Xg.at_region ?_
      refine Xg.ops_op (by kernel_rfl) (Xg.opx_pure ((Value.slice xa1 n n)) rfl (fun _ => by kernel_rfl) ?_)
      refine Xg.ops_op (by kernel_rfl) (Xg.opx_pure ((iv (↑i : Int))) rfl (fun _ => by kernel_rfl) ?_)
      refine Xg.ops_op (by kernel_rfl) (Xg.opx_pure ((iv (↑i : Int))) rfl (fun _ => by kernel_rfl) ?_)
      refine Xg.ops_op (by kernel_rfl) (Xg.opx_pure ((pv xb1 3)) rfl (fun _ => by kernel_rfl) ?_)
      refine Xg.ops_op (by kernel_rfl) (Xg.opx_load (b := xb1) (off := ((3 : Nat))) 1 (iv sd) rfl (by kernel_rfl) (by kernel_rfl) (by kernel_rfl) ?_)
      refine Xg.ops_op (by kernel_rfl) (Xg.opx_call1' [] [bts xa1 n n xs, row xb1 (26 : TypeId) [iv t, iv rc, iv rr, iv sd, iv mo, Value.slice pa np pc, Value.slice qa nq qc, Value.bool false], A] (fun _ => by kernel_rfl) (@hby ) (by kernel_rfl) (by kernel_rfl) (by kernel_rfl) ?_)
      refine Xg.ops_op (by kernel_rfl) (Xg.opx_ix_own (elem := 5) (kd := .i64) (e := ((↑i : Int))) 0 1 i i rfl (by kernel_rfl) (by kernel_rfl) (by kernel_rfl) (by kernel_rfl) rfl (by omega) (by omega) ?_)
      refine Xg.ops_op (by kernel_rfl) (Xg.opx_store_own_i (a := xa1) (off := i) (kd := .u8) (xs := xs) (e := (bytI (↑i : Int) sd)) 0 (by kernel_rfl) rfl (by kernel_rfl) (by kernel_rfl) (by first | omega | (simp only [List.length_set]; omega)) ?_)
      refine Xg.ops_nil ?_
      refine Xg.at_inBlock ?_
      refine Xg.at_region ?_
      refine Xg.ops_op (by kernel_rfl) (Xg.opx_pure ((iv (↑i : Int))) rfl (fun _ => by kernel_rfl) ?_)
      refine Xg.ops_op (by kernel_rfl) (Xg.opx_int .i64 (IntKind.wrap .i64 (((↑i : Int) + (1 : Int)))) rfl (fun _ => by kernel_rfl) (Xg.wrap_i64_in (by omega)) ?_)
      refine Xg.ops_op (by kernel_rfl) (Xg.opx_pure ((iv ((↑i : Int) + (1 : Int)))) rfl (fun _ => by kernel_rfl) ?_)
      refine Xg.ops_nil ?_
      refine Xg.at_inLoop ?_)
    (focus
      refine Xg.at_keep [0, 1, 2] (by kernel_rfl) ?_
      refine Xs.same ?_ (fun J9 => ih (((i + 1, xs.set i (bytI i sd))), J9) ?_ ?_) (by kernel_rfl))
    · rfl
    · refine ⟨hlt, by rw [List.length_set]; exact hl, isB_set i hB hbo, fun k hk => ?_⟩
      have hk : k < i + 1 := hk
      show (xs.set i (bytI i sd)).getD k 0 = bytI k sd
      rw [getD_set _ _ _ _ (by omega)]
      split
      · rename_i e; rw [e]
      · exact hf k (by omega)
    · show n - (i + 1) < n - i; omega
  clear ih
  obtain rfl : n = i := by omega
  (focus
    refine Xg.at_seq ?_
    refine Xg.at_seq ?_
    refine Xg.at_region ?_
    refine Xg.ops_op (by kernel_rfl) (Xg.opx_pure ((iv (↑n : Int))) rfl (fun _ => by kernel_rfl) ?_)
    refine Xg.ops_op (by kernel_rfl) (Xg.opx_pure ((iv (↑n : Int))) rfl (fun _ => by kernel_rfl) ?_)
    refine Xg.ops_op (by kernel_rfl) (Xg.opx_pure (.bool (decide ((((↑n : Int)) : Int) < ((↑n : Int))))) rfl (fun _ => by kernel_rfl) ?_)
    refine Xg.ops_nil ?_
    refine Xg.at_false (t := decide (((↑n : Int) < (↑n : Int)))) (by kernel_rfl) (decide_eq_false (by omega)) ?_
    refine Xg.at_exit rfl ?_
    refine Xg.at_seq ?_
    refine Xg.at_seq ?_
    refine Xg.at_region ?_
    refine Xg.ops_op (by kernel_rfl) (Xg.opx_pure ((iv (↑n : Int))) rfl (fun _ => by kernel_rfl) ?_)
    refine Xg.ops_op (by kernel_rfl) (Xg.opx_pure (.bool (decide ((((↑n : Int)) : Int) > ((335 : Int))))) rfl (fun _ => by kernel_rfl) ?_)
    refine Xg.ops_op (by kernel_rfl) (Xg.opx_pure ((Value.bool (decide ((↑n : Int) > (335 : Int))))) rfl (fun _ => by kernel_rfl) ?_)
    refine Xg.ops_flag (j := 38) (c := (decide ((↑n : Int) > (335 : Int)))) (by kernel_rfl) (fun _ => ?_) (fun xh2 => absurd (of_decide_eq_false xh2) (by omega))
    refine Xg.ops_op (by kernel_rfl) (Xg.opx_pure ((pv xb1 7)) rfl (fun _ => by kernel_rfl) ?_)
    refine Xg.ops_op (by kernel_rfl) (Xg.opx_load (b := xb1) (off := ((7 : Nat))) 1 (Value.bool false) rfl (by kernel_rfl) (by kernel_rfl) (by kernel_rfl) ?_)
    refine Xg.ops_op (by kernel_rfl) (Xg.opx_pure (.bool true) rfl (fun _ => by kernel_rfl) ?_)
    refine Xg.ops_op (by kernel_rfl) (Xg.opx_pure ((Value.bool true)) rfl (fun _ => by kernel_rfl) ?_)
    refine Xg.ops_nil ?_
    refine Xg.at_true (t := true) (by kernel_rfl) rfl ?_
    refine Xg.at_seq ?_
    refine Xg.at_seq ?_
    refine Xg.at_region ?_
    refine Xg.ops_op (by kernel_rfl) (Xg.opx_pure ((iv 0)) rfl (fun _ => by kernel_rfl) ?_)
    refine Xg.ops_nil ?_
    refine Xg.at_block ?_)
  (focus
    refine Xg.at_rounds_inv (α := (Nat × List Int) × (Nat → Value)) (fun x => ((fun x => x.1 ≤ 48 ∧ x.2.length = n ∧ isB x.2 ∧ ∀ k, k < n → x.2.getD k 0 = if 260 ≤ k ∧ k < 260 + x.1 then mkI (k - 260) else bytI k sd) : (Nat × List Int) → Prop) x.1) (fun x => ((fun x => 48 - x.1) : (Nat × List Int) → Nat) x.1) (fun x => Xg.headT [Value.agg #[iv t, iv rc, iv rr, iv sd, iv mo, Value.slice pa np pc, Value.slice qa nq qc, Value.bool false], pv xb1 0, Value.slice none (0 : Nat) (0 : Nat), iv (↑n : Int), Value.slice xa1 n n, iv (↑n : Int), iv 0, tu, tu, pv xb1 1, iv rc, iv r7, iv (IntKind.i64.wrap ((32768 : Int) * (2 : Int) ^ min r7.toNat IntKind.i64.bits)), pv xb1 4, iv mo, Value.bool !decide (mo = (0 : Int)), J0 16, J0 17, J0 18, J0 19, J0 20, J0 21, iv (↑n : Int), Value.slice xa1 n n, iv (↑n : Int), iv (↑n : Int), Value.bool (decide ((↑n : Int) < (↑n : Int))), J1 27, J1 28, J1 29, J1 30, J1 31, J1 32, J1 33, J1 34, J1 35, iv (↑n : Int), Value.bool (decide ((↑n : Int) > (335 : Int))), Value.bool true, pv xb1 7, Value.bool false, Value.bool true, Value.bool true, tu, tu, tu, tu, tu, tu, tu, tu, tu, tu, tu, tu, tu, tu, tu, tu, tu, tu, tu, tu, tu, tu, tu, tu, tu, tu, tu, tu, tu, tu, tu, tu, tu, tu, tu, tu, tu, tu, tu, tu, tu, tu, tu, tu, tu, tu, tu, tu, tu, tu, tu, tu, tu, tu, tu, tu, tu, tu, tu, tu, tu, tu, tu, tu, tu, tu, tu, tu, tu, tu, tu, tu, tu, tu, tu, tu, tu, tu, tu, tu, tu, tu, tu, tu, tu, tu, tu, tu, tu, tu, tu] [43, 44, 45, 46, 47, 48, 49, 50, 51, 52, 53, 54, 55, 56, 57, 58, 59] (((fun x => [(6, .int .i64 (x.1 : Nat))]) : (Nat × List Int) → List (Nat × Go.Value)) x.1) x.2) (fun x => ((fun x => [bts xa1 n n x.2, row xb1 26 [.int .i64 t, .int .i64 rc, .int .i64 rr, .int .i64 sd, .int .i64 mo, .slice pa np pc, .slice qa nq qc, .bool false], A]) : (Nat × List Int) → List Go.Sl.HP) x.1) (((0, xs)), fun j9 => ([Value.agg #[iv t, iv rc, iv rr, iv sd, iv mo, Value.slice pa np pc, Value.slice qa nq qc, Value.bool false], pv xb1 0, Value.slice none (0 : Nat) (0 : Nat), iv (↑n : Int), Value.slice xa1 n n, iv (↑n : Int), iv 0, tu, tu, pv xb1 1, iv rc, iv r7, iv (IntKind.i64.wrap ((32768 : Int) * (2 : Int) ^ min r7.toNat IntKind.i64.bits)), pv xb1 4, iv mo, Value.bool !decide (mo = (0 : Int)), J0 16, J0 17, J0 18, J0 19, J0 20, J0 21, iv (↑n : Int), Value.slice xa1 n n, iv (↑n : Int), iv (↑n : Int), Value.bool (decide ((↑n : Int) < (↑n : Int))), J1 27, J1 28, J1 29, J1 30, J1 31, J1 32, J1 33, J1 34, J1 35, iv (↑n : Int), Value.bool (decide ((↑n : Int) > (335 : Int))), Value.bool true, pv xb1 7, Value.bool false, Value.bool true, Value.bool true, tu, tu, tu, tu, tu, tu, tu, tu, tu, tu, tu, tu, tu, tu, tu, tu, tu, tu, tu, tu, tu, tu, tu, tu, tu, tu, tu, tu, tu, tu, tu, tu, tu, tu, tu, tu, tu, tu, tu, tu, tu, tu, tu, tu, tu, tu, tu, tu, tu, tu, tu, tu, tu, tu, tu, tu, tu, tu, tu, tu, tu, tu, tu, tu, tu, tu, tu, tu, tu, tu, tu, tu, tu, tu, tu, tu, tu, tu, tu, tu, tu, tu, tu, tu, tu, tu, tu, tu, tu, tu, tu] : List Value).getD j9 undef) (by kernel_rfl) (by kernel_rfl) ?_ ?_)
  · refine ⟨Nat.zero_le _, hl, hB, fun k hk => ?_⟩
    show xs.getD k 0 = if 260 ≤ k ∧ k < 260 + 0 then mkI (k - 260) else bytI k sd
    rw [if_neg (by omega)]; exact hf k hk
  rintro ⟨⟨i, ys⟩, J2⟩ hI ih
  obtain ⟨hi2, hl2, hB2, hf2⟩ := hI
  dsimp only at hi2 hl2 hB2 hf2
  (focus
    refine Xg.At.same (T' := [Value.agg #[iv t, iv rc, iv rr, iv sd, iv mo, Value.slice pa np pc, Value.slice qa nq qc, Value.bool false], pv xb1 0, Value.slice none (0 : Nat) (0 : Nat), iv (↑n : Int), Value.slice xa1 n n, iv (↑n : Int), iv (↑i : Int), tu, tu, pv xb1 1, iv rc, iv r7, iv (IntKind.i64.wrap ((32768 : Int) * (2 : Int) ^ min r7.toNat IntKind.i64.bits)), pv xb1 4, iv mo, Value.bool !decide (mo = (0 : Int)), J0 16, J0 17, J0 18, J0 19, J0 20, J0 21, iv (↑n : Int), Value.slice xa1 n n, iv (↑n : Int), iv (↑n : Int), Value.bool (decide ((↑n : Int) < (↑n : Int))), J1 27, J1 28, J1 29, J1 30, J1 31, J1 32, J1 33, J1 34, J1 35, iv (↑n : Int), Value.bool (decide ((↑n : Int) > (335 : Int))), Value.bool true, pv xb1 7, Value.bool false, Value.bool true, Value.bool true, J2 43, J2 44, J2 45, J2 46, J2 47, J2 48, J2 49, J2 50, J2 51, J2 52, J2 53, J2 54, J2 55, J2 56, J2 57, J2 58, J2 59, tu, tu, tu, tu, tu, tu, tu, tu, tu, tu, tu, tu, tu, tu, tu, tu, tu, tu, tu, tu, tu, tu, tu, tu, tu, tu, tu, tu, tu, tu, tu, tu, tu, tu, tu, tu, tu, tu, tu, tu, tu, tu, tu, tu, tu, tu, tu, tu, tu, tu, tu, tu, tu, tu, tu, tu, tu, tu, tu, tu, tu, tu, tu, tu, tu, tu, tu, tu, tu, tu, tu, tu, tu, tu]) (L' := [bts xa1 n n ((i, ys), J2).fst.snd, row xb1 (26 : TypeId) [iv t, iv rc, iv rr, iv sd, iv mo, Value.slice pa np pc, Value.slice qa nq qc, Value.bool false], A]) (by kernel_rfl) rfl ?_)
  by_cases hlt : i < 48
  · have hq := mkq hlt
    have hq1 := hq.1
    have hq2 := hq.2
    have hmo2 := mkI_ok i
    have e2 : ((260 : Int) + (i : Int)).toNat = 260 + i := by omega
    (focus
      refine Xg.at_seq ?_
      refine Xg.at_seq ?_
      refine Xg.at_region ?_
      refine Xg.ops_op (by kernel_rfl) (Xg.opx_pure ((iv (↑i : Int))) rfl (fun _ => by kernel_rfl) ?_)
      refine Xg.ops_op (by kernel_rfl) (Xg.opx_pure (.bool (decide ((((↑i : Int)) : Int) < ((48 : Int))))) rfl (fun _ => by kernel_rfl) ?_)
      refine Xg.ops_nil ?_
      refine Xg.at_true (t := decide (((↑i : Int) < (48 : Int)))) (by kernel_rfl) (decide_eq_true (by omega)) ?_
      refine Xg.at_skip ?_
      refine Xg.at_seq ?_
      refine Xg.at_block ?_
      refine Xg.at_region ?_
      refine Xg.ops_op (by kernel_rfl) (Xg.opx_pure ((Value.slice xa1 n n)) rfl (fun _ => by kernel_rfl) ?_)
      refine Xg.ops_op (by kernel_rfl) (Xg.opx_pure ((iv (↑i : Int))) rfl (fun _ => by kernel_rfl) ?_)
      refine Xg.ops_op (by kernel_rfl) (Xg.opx_int .i64 (IntKind.wrap .i64 (((260 : Int) + (↑i : Int)))) rfl (fun _ => by kernel_rfl) (Xg.wrap_i64_in (by omega)) ?_)
      refine Xg.ops_op (by kernel_rfl) (Xg.opx_pure ((iv (↑i : Int))) rfl (fun _ => by kernel_rfl) ?_)
      refine Xg.ops_op (by kernel_rfl) (Xg.opx_int .i64 (IntKind.wrap .i64 (((7 : Int) * (↑i : Int)))) rfl (fun _ => by kernel_rfl) (Xg.wrap_i64_in (by omega)) ?_)
      refine Xg.ops_op (by kernel_rfl) (Xg.opx_pure ((iv (↑i : Int))) rfl (fun _ => by kernel_rfl) ?_)
      refine Xg.ops_op (by kernel_rfl) (Xg.opx_int .i64 (IntKind.wrap .i64 (((7 : Int) * (↑i : Int) * (↑i : Int)))) rfl (fun _ => by kernel_rfl) (Xg.wrap_i64_in (by omega)) ?_)
      refine Xg.ops_op (by kernel_rfl) (Xg.opx_pure ((iv (↑i : Int))) rfl (fun _ => by kernel_rfl) ?_)
      refine Xg.ops_op (by kernel_rfl) (Xg.opx_int .i64 (IntKind.wrap .i64 (((13 : Int) * (↑i : Int)))) rfl (fun _ => by kernel_rfl) (Xg.wrap_i64_in (by omega)) ?_)
      refine Xg.ops_op (by kernel_rfl) (Xg.opx_int .i64 (IntKind.wrap .i64 (((7 : Int) * (↑i : Int) * (↑i : Int) + (13 : Int) * (↑i : Int)))) rfl (fun _ => by kernel_rfl) (Xg.wrap_i64_in (by omega)) ?_)
      refine Xg.ops_op (by kernel_rfl) (Xg.opx_int .i64 (IntKind.wrap .i64 (((7 : Int) * (↑i : Int) * (↑i : Int) + (13 : Int) * (↑i : Int) + (206 : Int)))) rfl (fun _ => by kernel_rfl) (Xg.wrap_i64_in (by omega)) ?_)
      refine Xg.ops_op (by kernel_rfl) (Xg.opx_int .u8 (IntKind.wrap .u8 (((7 : Int) * (↑i : Int) * (↑i : Int) + (13 : Int) * (↑i : Int) + (206 : Int)))) rfl (fun _ => by kernel_rfl) (Xg.wrap_u8_mod _) ?_)
      refine Xg.ops_op (by kernel_rfl) (Xg.opx_ix_own (elem := 5) (kd := .i64) (e := ((260 : Int) + (↑i : Int))) 0 1 (((260 : Int) + (↑i : Int)).toNat) (((260 : Int) + (↑i : Int)).toNat) rfl (by kernel_rfl) (by kernel_rfl) (by kernel_rfl) (by kernel_rfl) (by omega) (by omega) (by omega) ?_)
      refine Xg.ops_op (by kernel_rfl) (Xg.opx_store_own_i (a := xa1) (off := (((260 : Int) + (↑i : Int)).toNat)) (kd := .u8) (xs := (((i, ys), J2).fst.snd)) (e := (((7 : Int) * (↑i : Int) * (↑i : Int) + (13 : Int) * (↑i : Int) + (206 : Int)) % (256 : Int))) 0 (by kernel_rfl) rfl (by kernel_rfl) (by kernel_rfl) (by first | omega | (simp only [List.length_set]; omega)) ?_)
      refine Xg.ops_nil ?_
      refine Xg.at_inBlock ?_
      refine Xg.at_region ?_
      refine Xg.ops_op (by kernel_rfl) (Xg.opx_pure ((iv (↑i : Int))) rfl (fun _ => by kernel_rfl) ?_)
      refine Xg.ops_op (by kernel_rfl) (Xg.opx_int .i64 (IntKind.wrap .i64 (((↑i : Int) + (1 : Int)))) rfl (fun _ => by kernel_rfl) (Xg.wrap_i64_in (by omega)) ?_)
      refine Xg.ops_op (by kernel_rfl) (Xg.opx_pure ((iv ((↑i : Int) + (1 : Int)))) rfl (fun _ => by kernel_rfl) ?_)
      refine Xg.ops_nil ?_
      refine Xg.at_inLoop ?_)
    (focus
      refine Xg.at_keep [0, 1, 2] (by kernel_rfl) ?_
      refine Xs.same ?_ (fun J9 => ih (((i + 1, ys.set ((260 : Int) + (i : Int)).toNat (((7 : Int) * (i : Int) * (i : Int) + (13 : Int) * (i : Int) + (206 : Int)) % (256 : Int)))), J9) ?_ ?_) (by kernel_rfl))
    · rfl
    · refine ⟨hlt, by rw [List.length_set]; exact hl2, isB_set _ hB2 hmo2, fun k hk => ?_⟩
      show (ys.set ((260 : Int) + (i : Int)).toNat (mkI i)).getD k 0 = if 260 ≤ k ∧ k < 260 + (i + 1) then mkI (k - 260) else bytI k sd
      rw [e2, getD_set _ _ _ _ (by omega)]
      by_cases e : k = 260 + i
      · rw [if_pos e, if_pos (by omega), show k - 260 = i by omega]
      · rw [if_neg e, hf2 k hk]
        by_cases e3 : 260 ≤ k ∧ k < 260 + i
        · rw [if_pos e3, if_pos (by omega)]
        · rw [if_neg e3, if_neg (by omega)]
    · show 48 - (i + 1) < 48 - i; omega
  clear ih hf hB hl
  obtain rfl : i = 48 := by omega
  (focus
    refine Xg.at_seq ?_
    refine Xg.at_seq ?_
    refine Xg.at_region ?_
    refine Xg.ops_op (by kernel_rfl) (Xg.opx_pure ((iv 48)) rfl (fun _ => by kernel_rfl) ?_)
    refine Xg.ops_op (by kernel_rfl) (Xg.opx_pure ((Value.bool false)) rfl (fun _ => by kernel_rfl) ?_)
    refine Xg.ops_nil ?_
    refine Xg.at_false (t := false) (by kernel_rfl) rfl ?_
    refine Xg.at_exit rfl ?_
    refine Xg.at_seq ?_
    refine Xg.at_seq ?_
    refine Xg.at_region ?_
    refine Xg.ops_op (by kernel_rfl) (Xg.opx_pure ((iv 308)) rfl (fun _ => by kernel_rfl) ?_)
    refine Xg.ops_nil ?_
    refine Xg.at_block ?_)
  (focus
    refine Xg.at_rounds_inv (α := (Nat × List Int) × (Nat → Value)) (fun x => ((fun x => 308 ≤ x.1 ∧ x.1 ≤ 323 ∧ x.2.length = n ∧ isB x.2 ∧ ∀ k, k < n → x.2.getD k 0 = if 260 ≤ k ∧ k < 308 then mkI (k - 260) else if 308 ≤ k ∧ k < x.1 then 0 else bytI k sd) : (Nat × List Int) → Prop) x.1) (fun x => ((fun x => 323 - x.1) : (Nat × List Int) → Nat) x.1) (fun x => Xg.headT [Value.agg #[iv t, iv rc, iv rr, iv sd, iv mo, Value.slice pa np pc, Value.slice qa nq qc, Value.bool false], pv xb1 0, Value.slice none (0 : Nat) (0 : Nat), iv (↑n : Int), Value.slice xa1 n n, iv (↑n : Int), iv 48, iv 308, tu, pv xb1 1, iv rc, iv r7, iv (IntKind.i64.wrap ((32768 : Int) * (2 : Int) ^ min r7.toNat IntKind.i64.bits)), pv xb1 4, iv mo, Value.bool !decide (mo = (0 : Int)), J0 16, J0 17, J0 18, J0 19, J0 20, J0 21, iv (↑n : Int), Value.slice xa1 n n, iv (↑n : Int), iv (↑n : Int), Value.bool (decide ((↑n : Int) < (↑n : Int))), J1 27, J1 28, J1 29, J1 30, J1 31, J1 32, J1 33, J1 34, J1 35, iv (↑n : Int), Value.bool (decide ((↑n : Int) > (335 : Int))), Value.bool true, pv xb1 7, Value.bool false, Value.bool true, Value.bool true, iv 48, Value.bool false, (((48 : Nat), ys), J2).snd (45 : Nat), (((48 : Nat), ys), J2).snd (46 : Nat), (((48 : Nat), ys), J2).snd (47 : Nat), (((48 : Nat), ys), J2).snd (48 : Nat), (((48 : Nat), ys), J2).snd (49 : Nat), (((48 : Nat), ys), J2).snd (50 : Nat), (((48 : Nat), ys), J2).snd (51 : Nat), (((48 : Nat), ys), J2).snd (52 : Nat), (((48 : Nat), ys), J2).snd (53 : Nat), (((48 : Nat), ys), J2).snd (54 : Nat), (((48 : Nat), ys), J2).snd (55 : Nat), (((48 : Nat), ys), J2).snd (56 : Nat), (((48 : Nat), ys), J2).snd (57 : Nat), (((48 : Nat), ys), J2).snd (58 : Nat), (((48 : Nat), ys), J2).snd (59 : Nat), tu, tu, tu, tu, tu, tu, tu, tu, tu, tu, tu, tu, tu, tu, tu, tu, tu, tu, tu, tu, tu, tu, tu, tu, tu, tu, tu, tu, tu, tu, tu, tu, tu, tu, tu, tu, tu, tu, tu, tu, tu, tu, tu, tu, tu, tu, tu, tu, tu, tu, tu, tu, tu, tu, tu, tu, tu, tu, tu, tu, tu, tu, tu, tu, tu, tu, tu, tu, tu, tu, tu, tu, tu, tu] [60, 61, 62, 63, 64, 65, 66] (((fun x => [(7, .int .i64 (x.1 : Nat))]) : (Nat × List Int) → List (Nat × Go.Value)) x.1) x.2) (fun x => ((fun x => [bts xa1 n n x.2, row xb1 26 [.int .i64 t, .int .i64 rc, .int .i64 rr, .int .i64 sd, .int .i64 mo, .slice pa np pc, .slice qa nq qc, .bool false], A]) : (Nat × List Int) → List Go.Sl.HP) x.1) (((308, ys)), fun j9 => ([Value.agg #[iv t, iv rc, iv rr, iv sd, iv mo, Value.slice pa np pc, Value.slice qa nq qc, Value.bool false], pv xb1 0, Value.slice none (0 : Nat) (0 : Nat), iv (↑n : Int), Value.slice xa1 n n, iv (↑n : Int), iv 48, iv 308, tu, pv xb1 1, iv rc, iv r7, iv (IntKind.i64.wrap ((32768 : Int) * (2 : Int) ^ min r7.toNat IntKind.i64.bits)), pv xb1 4, iv mo, Value.bool !decide (mo = (0 : Int)), J0 16, J0 17, J0 18, J0 19, J0 20, J0 21, iv (↑n : Int), Value.slice xa1 n n, iv (↑n : Int), iv (↑n : Int), Value.bool (decide ((↑n : Int) < (↑n : Int))), J1 27, J1 28, J1 29, J1 30, J1 31, J1 32, J1 33, J1 34, J1 35, iv (↑n : Int), Value.bool (decide ((↑n : Int) > (335 : Int))), Value.bool true, pv xb1 7, Value.bool false, Value.bool true, Value.bool true, iv 48, Value.bool false, (((48 : Nat), ys), J2).snd (45 : Nat), (((48 : Nat), ys), J2).snd (46 : Nat), (((48 : Nat), ys), J2).snd (47 : Nat), (((48 : Nat), ys), J2).snd (48 : Nat), (((48 : Nat), ys), J2).snd (49 : Nat), (((48 : Nat), ys), J2).snd (50 : Nat), (((48 : Nat), ys), J2).snd (51 : Nat), (((48 : Nat), ys), J2).snd (52 : Nat), (((48 : Nat), ys), J2).snd (53 : Nat), (((48 : Nat), ys), J2).snd (54 : Nat), (((48 : Nat), ys), J2).snd (55 : Nat), (((48 : Nat), ys), J2).snd (56 : Nat), (((48 : Nat), ys), J2).snd (57 : Nat), (((48 : Nat), ys), J2).snd (58 : Nat), (((48 : Nat), ys), J2).snd (59 : Nat), tu, tu, tu, tu, tu, tu, tu, tu, tu, tu, tu, tu, tu, tu, tu, tu, tu, tu, tu, tu, tu, tu, tu, tu, tu, tu, tu, tu, tu, tu, tu, tu, tu, tu, tu, tu, tu, tu, tu, tu, tu, tu, tu, tu, tu, tu, tu, tu, tu, tu, tu, tu, tu, tu, tu, tu, tu, tu, tu, tu, tu, tu, tu, tu, tu, tu, tu, tu, tu, tu, tu, tu, tu, tu] : List Value).getD j9 undef) (by kernel_rfl) (by kernel_rfl) ?_ ?_)
  · refine ⟨Nat.le_refl _, (by show (308 : Nat) ≤ 323; decide), hl2, hB2, fun k hk => ?_⟩
    show ys.getD k 0 = if 260 ≤ k ∧ k < 308 then mkI (k - 260) else if 308 ≤ k ∧ k < 308 then 0 else bytI k sd
    rw [hf2 k hk, if_neg (show ¬ (308 ≤ k ∧ k < 308) by omega)]
  rintro ⟨⟨i, zs⟩, J3⟩ hI ih
  obtain ⟨hi3, hi4, hl3, hB3, hf3⟩ := hI
  dsimp only at hi3 hi4 hl3 hB3 hf3
  (focus
    refine Xg.At.same (T' := [Value.agg #[iv t, iv rc, iv rr, iv sd, iv mo, Value.slice pa np pc, Value.slice qa nq qc, Value.bool false], pv xb1 0, Value.slice none (0 : Nat) (0 : Nat), iv (↑n : Int), Value.slice xa1 n n, iv (↑n : Int), iv 48, iv (↑i : Int), tu, pv xb1 1, iv rc, iv r7, iv (IntKind.i64.wrap ((32768 : Int) * (2 : Int) ^ min r7.toNat IntKind.i64.bits)), pv xb1 4, iv mo, Value.bool !decide (mo = (0 : Int)), J0 16, J0 17, J0 18, J0 19, J0 20, J0 21, iv (↑n : Int), Value.slice xa1 n n, iv (↑n : Int), iv (↑n : Int), Value.bool (decide ((↑n : Int) < (↑n : Int))), J1 27, J1 28, J1 29, J1 30, J1 31, J1 32, J1 33, J1 34, J1 35, iv (↑n : Int), Value.bool (decide ((↑n : Int) > (335 : Int))), Value.bool true, pv xb1 7, Value.bool false, Value.bool true, Value.bool true, iv 48, Value.bool false, (((48 : Nat), ys), J2).snd (45 : Nat), (((48 : Nat), ys), J2).snd (46 : Nat), (((48 : Nat), ys), J2).snd (47 : Nat), (((48 : Nat), ys), J2).snd (48 : Nat), (((48 : Nat), ys), J2).snd (49 : Nat), (((48 : Nat), ys), J2).snd (50 : Nat), (((48 : Nat), ys), J2).snd (51 : Nat), (((48 : Nat), ys), J2).snd (52 : Nat), (((48 : Nat), ys), J2).snd (53 : Nat), (((48 : Nat), ys), J2).snd (54 : Nat), (((48 : Nat), ys), J2).snd (55 : Nat), (((48 : Nat), ys), J2).snd (56 : Nat), (((48 : Nat), ys), J2).snd (57 : Nat), (((48 : Nat), ys), J2).snd (58 : Nat), (((48 : Nat), ys), J2).snd (59 : Nat), J3 60, J3 61, J3 62, J3 63, J3 64, J3 65, J3 66, tu, tu, tu, tu, tu, tu, tu, tu, tu, tu, tu, tu, tu, tu, tu, tu, tu, tu, tu, tu, tu, tu, tu, tu, tu, tu, tu, tu, tu, tu, tu, tu, tu, tu, tu, tu, tu, tu, tu, tu, tu, tu, tu, tu, tu, tu, tu, tu, tu, tu, tu, tu, tu, tu, tu, tu, tu, tu, tu, tu, tu, tu, tu, tu, tu, tu, tu]) (L' := [bts xa1 n n ((i, zs), J3).fst.snd, row xb1 (26 : TypeId) [iv t, iv rc, iv rr, iv sd, iv mo, Value.slice pa np pc, Value.slice qa nq qc, Value.bool false], A]) (by kernel_rfl) rfl ?_)
  by_cases hlt : i < 323
  · (focus
      refine Xg.at_seq ?_
      refine Xg.at_seq ?_
      refine Xg.at_region ?_
      refine Xg.ops_op (by kernel_rfl) (Xg.opx_pure ((iv (↑i : Int))) rfl (fun _ => by kernel_rfl) ?_)
      refine Xg.ops_op (by kernel_rfl) (Xg.opx_pure (.bool (decide ((((↑i : Int)) : Int) < ((323 : Int))))) rfl (fun _ => by kernel_rfl) ?_)
      refine Xg.ops_nil ?_
      refine Xg.at_true (t := decide (((↑i : Int) < (323 : Int)))) (by kernel_rfl) (decide_eq_true (by omega)) ?_
      refine Xg.at_skip ?_
      refine Xg.at_seq ?_
      refine Xg.at_block ?_
      refine Xg.at_region ?_
      refine Xg.ops_op (by kernel_rfl) (Xg.opx_pure ((Value.slice xa1 n n)) rfl (fun _ => by kernel_rfl) ?_)
      refine Xg.ops_op (by kernel_rfl) (Xg.opx_pure ((iv (↑i : Int))) rfl (fun _ => by kernel_rfl) ?_)
      refine Xg.ops_op (by kernel_rfl) (Xg.opx_ix_own (elem := 5) (kd := .i64) (e := ((↑i : Int))) 0 1 i i rfl (by kernel_rfl) (by kernel_rfl) (by kernel_rfl) (by kernel_rfl) rfl (by omega) (by omega) ?_)
      refine Xg.ops_op (by kernel_rfl) (Xg.opx_store_own_i (a := xa1) (off := i) (kd := .u8) (xs := (((i, zs), J3).fst.snd)) (e := ((0 : Int))) 0 (by kernel_rfl) rfl (by kernel_rfl) (by kernel_rfl) (by first | omega | (simp only [List.length_set]; omega)) ?_)
      refine Xg.ops_nil ?_
      refine Xg.at_inBlock ?_
      refine Xg.at_region ?_
      refine Xg.ops_op (by kernel_rfl) (Xg.opx_pure ((iv (↑i : Int))) rfl (fun _ => by kernel_rfl) ?_)
      refine Xg.ops_op (by kernel_rfl) (Xg.opx_int .i64 (IntKind.wrap .i64 (((↑i : Int) + (1 : Int)))) rfl (fun _ => by kernel_rfl) (Xg.wrap_i64_in (by omega)) ?_)
      refine Xg.ops_op (by kernel_rfl) (Xg.opx_pure ((iv ((↑i : Int) + (1 : Int)))) rfl (fun _ => by kernel_rfl) ?_)
      refine Xg.ops_nil ?_
      refine Xg.at_inLoop ?_)
    (focus
      refine Xg.at_keep [0, 1, 2] (by kernel_rfl) ?_
      refine Xs.same ?_ (fun J9 => ih (((i + 1, zs.set i 0)), J9) ?_ ?_) (by kernel_rfl))
    · rfl
    · refine ⟨by show 308 ≤ i + 1; omega, hlt, by rw [List.length_set]; exact hl3, isB_set _ hB3 (by decide), fun k hk => ?_⟩
      show (zs.set i 0).getD k 0 = if 260 ≤ k ∧ k < 308 then mkI (k - 260) else if 308 ≤ k ∧ k < i + 1 then 0 else bytI k sd
      rw [getD_set _ _ _ _ (by omega)]
      by_cases e : k = i
      · rw [if_pos e, if_neg (by omega), if_pos (by omega)]
      · rw [if_neg e, hf3 k hk]
        by_cases e3 : 308 ≤ k ∧ k < i
        · rw [if_pos e3, if_pos (show 308 ≤ k ∧ k < i + 1 by omega)]
        · rw [if_neg e3, if_neg (show ¬ (308 ≤ k ∧ k < i + 1) by omega)]
    · show 323 - (i + 1) < 323 - i; omega
  clear ih hf2 hB2 hl2
  obtain rfl : i = 323 := by omega
  (focus
    refine Xg.at_seq ?_
    refine Xg.at_seq ?_
    refine Xg.at_region ?_
    refine Xg.ops_op (by kernel_rfl) (Xg.opx_pure ((iv 323)) rfl (fun _ => by kernel_rfl) ?_)
    refine Xg.ops_op (by kernel_rfl) (Xg.opx_pure ((Value.bool false)) rfl (fun _ => by kernel_rfl) ?_)
    refine Xg.ops_nil ?_
    refine Xg.at_false (t := false) (by kernel_rfl) rfl ?_
    refine Xg.at_exit rfl ?_
    refine Xg.at_seq ?_
    refine Xg.at_region ?_
    refine Xg.ops_op (by kernel_rfl) (Xg.opx_pure ((Value.slice xa1 n n)) rfl (fun _ => by kernel_rfl) ?_)
    refine Xg.ops_op (by kernel_rfl) (Xg.opx_pure ((pv xb1 3)) rfl (fun _ => by kernel_rfl) ?_)
    refine Xg.ops_op (by kernel_rfl) (Xg.opx_load (b := xb1) (off := ((3 : Nat))) 1 (iv sd) rfl (by kernel_rfl) (by kernel_rfl) (by kernel_rfl) ?_)
    refine Xg.ops_op (by kernel_rfl) (Xg.opx_call1' [] [bts xa1 n n zs, row xb1 (26 : TypeId) [iv t, iv rc, iv rr, iv sd, iv mo, Value.slice pa np pc, Value.slice qa nq qc, Value.bool false], A] (fun _ => by kernel_rfl) (@hd26 ) (by kernel_rfl) (by kernel_rfl) (by kernel_rfl) ?_)
    refine Xg.ops_op (by kernel_rfl) (Xg.opx_int .u8 (IntKind.wrap .u8 ((pickI sd (26 : Int)))) rfl (fun _ => by kernel_rfl) (Xg.wrap_u8_in (by omega)) ?_)
    refine Xg.ops_op (by kernel_rfl) (Xg.opx_int .u8 (IntKind.wrap .u8 (((65 : Int) + pickI sd (26 : Int)))) rfl (fun _ => by kernel_rfl) (Xg.wrap_u8_in (by omega)) ?_)
    refine Xg.ops_op (by kernel_rfl) (Xg.opx_ix_own (elem := 5) (kd := .i64) (e := ((308 : Int))) 0 1 ((308 : Nat)) ((308 : Nat)) rfl (by kernel_rfl) (by kernel_rfl) (by kernel_rfl) (by kernel_rfl) rfl (by omega) (by omega) ?_)
    refine Xg.ops_op (by kernel_rfl) (Xg.opx_store_own_i (a := xa1) (off := ((308 : Nat))) (kd := .u8) (xs := zs) (e := ((65 : Int) + pickI sd (26 : Int))) 0 (by kernel_rfl) rfl (by kernel_rfl) (by kernel_rfl) (by first | omega | (simp only [List.length_set]; omega)) ?_)
    refine Xg.ops_nil ?_
    refine Xg.at_seq ?_
    refine Xg.at_region ?_
    refine Xg.ops_op (by kernel_rfl) (Xg.opx_pure ((Value.slice xa1 n n)) rfl (fun _ => by kernel_rfl) ?_)
    refine Xg.ops_op (by kernel_rfl) (Xg.opx_ix_own (elem := 5) (kd := .i64) (e := ((309 : Int))) 0 1 ((309 : Nat)) ((309 : Nat)) rfl (by kernel_rfl) (by kernel_rfl) (by kernel_rfl) (by kernel_rfl) rfl (by omega) (by omega) ?_)
    refine Xg.ops_op (by kernel_rfl) (Xg.opx_store_own_i (a := xa1) (off := ((309 : Nat))) (kd := .u8) (xs := (zs.set (308 : Nat) ((65 : Int) + pickI sd (26 : Int)))) (e := ((98 : Int))) 0 (by kernel_rfl) rfl (by kernel_rfl) (by kernel_rfl) (by first | omega | (simp only [List.length_set]; omega)) ?_)
    refine Xg.ops_nil ?_
    refine Xg.at_seq ?_
    refine Xg.at_region ?_
    refine Xg.ops_op (by kernel_rfl) (Xg.opx_pure ((Value.slice xa1 n n)) rfl (fun _ => by kernel_rfl) ?_)
    refine Xg.ops_op (by kernel_rfl) (Xg.opx_ix_own (elem := 5) (kd := .i64) (e := ((323 : Int))) 0 1 ((323 : Nat)) ((323 : Nat)) rfl (by kernel_rfl) (by kernel_rfl) (by kernel_rfl) (by kernel_rfl) rfl (by omega) (by omega) ?_)
    refine Xg.ops_op (by kernel_rfl) (Xg.opx_store_own_i (a := xa1) (off := ((323 : Nat))) (kd := .u8) (xs := ((zs.set (308 : Nat) ((65 : Int) + pickI sd (26 : Int))).set (309 : Nat) (98 : Int))) (e := ((0 : Int))) 0 (by kernel_rfl) rfl (by kernel_rfl) (by kernel_rfl) (by first | omega | (simp only [List.length_set]; omega)) ?_)
    refine Xg.ops_nil ?_
    refine Xg.at_seq ?_
    refine Xg.at_region ?_
    refine Xg.ops_op (by kernel_rfl) (Xg.opx_pure ((Value.slice xa1 n n)) rfl (fun _ => by kernel_rfl) ?_)
    refine Xg.ops_op (by kernel_rfl) (Xg.opx_pure ((pv xb1 0)) rfl (fun _ => by kernel_rfl) ?_)
    refine Xg.ops_op (by kernel_rfl) (Xg.opx_load (b := xb1) (off := ((0 : Nat))) 1 (iv t) rfl (by kernel_rfl) (by kernel_rfl) (by kernel_rfl) ?_)
    refine Xg.ops_op (by kernel_rfl) (Xg.opx_int .u8 (IntKind.wrap .u8 (t)) rfl (fun _ => by kernel_rfl) (Xg.wrap_u8_mod _) ?_)
    refine Xg.ops_op (by kernel_rfl) (Xg.opx_ix_own (elem := 5) (kd := .i64) (e := ((327 : Int))) 0 1 ((327 : Nat)) ((327 : Nat)) rfl (by kernel_rfl) (by kernel_rfl) (by kernel_rfl) (by kernel_rfl) rfl (by omega) (by omega) ?_)
    refine Xg.ops_op (by kernel_rfl) (Xg.opx_store_own_i (a := xa1) (off := ((327 : Nat))) (kd := .u8) (xs := (((zs.set (308 : Nat) ((65 : Int) + pickI sd (26 : Int))).set (309 : Nat) (98 : Int)).set (323 : Nat) (0 : Int))) (e := (t % (256 : Int))) 0 (by kernel_rfl) rfl (by kernel_rfl) (by kernel_rfl) (by first | omega | (simp only [List.length_set]; omega)) ?_)
    refine Xg.ops_nil ?_
    refine Xg.at_seq ?_
    refine Xg.at_region ?_
    refine Xg.ops_op (by kernel_rfl) (Xg.opx_pure ((Value.slice xa1 n n)) rfl (fun _ => by kernel_rfl) ?_)
    refine Xg.ops_op (by kernel_rfl) (Xg.opx_pure ((pv xb1 1)) rfl (fun _ => by kernel_rfl) ?_)
    refine Xg.ops_op (by kernel_rfl) (Xg.opx_load (b := xb1) (off := ((1 : Nat))) 1 (iv rc) rfl (by kernel_rfl) (by kernel_rfl) (by kernel_rfl) ?_)
    refine Xg.ops_op (by kernel_rfl) (Xg.opx_int .u8 (IntKind.wrap .u8 (rc)) rfl (fun _ => by kernel_rfl) (Xg.wrap_u8_mod _) ?_)
    refine Xg.ops_op (by kernel_rfl) (Xg.opx_ix_own (elem := 5) (kd := .i64) (e := ((328 : Int))) 0 1 ((328 : Nat)) ((328 : Nat)) rfl (by kernel_rfl) (by kernel_rfl) (by kernel_rfl) (by kernel_rfl) rfl (by omega) (by omega) ?_)
    refine Xg.ops_op (by kernel_rfl) (Xg.opx_store_own_i (a := xa1) (off := ((328 : Nat))) (kd := .u8) (xs := ((((zs.set (308 : Nat) ((65 : Int) + pickI sd (26 : Int))).set (309 : Nat) (98 : Int)).set (323 : Nat) (0 : Int)).set (327 : Nat) (t % (256 : Int)))) (e := (rc % (256 : Int))) 0 (by kernel_rfl) rfl (by kernel_rfl) (by kernel_rfl) (by first | omega | (simp only [List.length_set]; omega)) ?_)
    refine Xg.ops_nil ?_
    refine Xg.at_region ?_
    refine Xg.ops_op (by kernel_rfl) (Xg.opx_pure ((Value.slice xa1 n n)) rfl (fun _ => by kernel_rfl) ?_)
    refine Xg.ops_op (by kernel_rfl) (Xg.opx_pure ((pv xb1 2)) rfl (fun _ => by kernel_rfl) ?_)
    refine Xg.ops_op (by kernel_rfl) (Xg.opx_load (b := xb1) (off := ((2 : Nat))) 1 (iv rr) rfl (by kernel_rfl) (by kernel_rfl) (by kernel_rfl) ?_)
    refine Xg.ops_op (by kernel_rfl) (Xg.opx_int .u8 (IntKind.wrap .u8 (rr)) rfl (fun _ => by kernel_rfl) (Xg.wrap_u8_mod _) ?_)
    refine Xg.ops_op (by kernel_rfl) (Xg.opx_ix_own (elem := 5) (kd := .i64) (e := ((329 : Int))) 0 1 ((329 : Nat)) ((329 : Nat)) rfl (by kernel_rfl) (by kernel_rfl) (by kernel_rfl) (by kernel_rfl) rfl (by omega) (by omega) ?_)
    refine Xg.ops_op (by kernel_rfl) (Xg.opx_store_own_i (a := xa1) (off := ((329 : Nat))) (kd := .u8) (xs := (((((zs.set (308 : Nat) ((65 : Int) + pickI sd (26 : Int))).set (309 : Nat) (98 : Int)).set (323 : Nat) (0 : Int)).set (327 : Nat) (t % (256 : Int))).set (328 : Nat) (rc % (256 : Int)))) (e := (rr % (256 : Int))) 0 (by kernel_rfl) rfl (by kernel_rfl) (by kernel_rfl) (by first | omega | (simp only [List.length_set]; omega)) ?_)
    refine Xg.ops_nil ?_
    refine Xg.at_seq ?_
    refine Xg.at_seq ?_
    refine Xg.at_region ?_
    refine Xg.ops_op (by kernel_rfl) (Xg.opx_pure ((iv 0)) rfl (fun _ => by kernel_rfl) ?_)
    refine Xg.ops_nil ?_
    refine Xg.at_block ?_)
  obtain ⟨hl4, hB4, hf4⟩ := set_romP t rc rr sd zs n (by omega) hl3 hB3 hf3
  obtain ⟨X0, hX0⟩ : ∃ X0, ((((((zs.set 308 (65 + pickI sd 26)).set 309 98).set 323 0).set 327 (t % 256)).set 328 (rc % 256)).set 329 (rr % 256)) = X0 := ⟨_, rfl⟩
  rw [hX0] at hl4 hB4 hf4 ⊢
  clear hX0 hf3 hB3 hl3
  (focus
    refine Xg.at_rounds_inv (α := (Nat × List Int) × (Nat → Value)) (fun x => ((fun x => x.1 ≤ np ∧ x.1 ≤ nq ∧ x.2.length = n ∧ isB x.2 ∧ (np = 0 → x.2 = X0)) : (Nat × List Int) → Prop) x.1) (fun x => ((fun x => np - x.1) : (Nat × List Int) → Nat) x.1) (fun x => Xg.headT [Value.agg #[iv t, iv rc, iv rr, iv sd, iv mo, Value.slice pa np pc, Value.slice qa nq qc, Value.bool false], pv xb1 0, Value.slice none (0 : Nat) (0 : Nat), iv (↑n : Int), Value.slice xa1 n n, iv (↑n : Int), iv 48, iv 323, iv 0, pv xb1 1, iv rc, iv r7, iv (IntKind.i64.wrap ((32768 : Int) * (2 : Int) ^ min r7.toNat IntKind.i64.bits)), pv xb1 4, iv mo, Value.bool !decide (mo = (0 : Int)), J0 16, J0 17, J0 18, J0 19, J0 20, J0 21, iv (↑n : Int), Value.slice xa1 n n, iv (↑n : Int), iv (↑n : Int), Value.bool (decide ((↑n : Int) < (↑n : Int))), J1 27, J1 28, J1 29, J1 30, J1 31, J1 32, J1 33, J1 34, J1 35, iv (↑n : Int), Value.bool (decide ((↑n : Int) > (335 : Int))), Value.bool true, pv xb1 7, Value.bool false, Value.bool true, Value.bool true, iv 48, Value.bool false, (((48 : Nat), ys), J2).snd (45 : Nat), (((48 : Nat), ys), J2).snd (46 : Nat), (((48 : Nat), ys), J2).snd (47 : Nat), (((48 : Nat), ys), J2).snd (48 : Nat), (((48 : Nat), ys), J2).snd (49 : Nat), (((48 : Nat), ys), J2).snd (50 : Nat), (((48 : Nat), ys), J2).snd (51 : Nat), (((48 : Nat), ys), J2).snd (52 : Nat), (((48 : Nat), ys), J2).snd (53 : Nat), (((48 : Nat), ys), J2).snd (54 : Nat), (((48 : Nat), ys), J2).snd (55 : Nat), (((48 : Nat), ys), J2).snd (56 : Nat), (((48 : Nat), ys), J2).snd (57 : Nat), (((48 : Nat), ys), J2).snd (58 : Nat), (((48 : Nat), ys), J2).snd (59 : Nat), iv 323, Value.bool false, (((323 : Nat), zs), J3).snd (62 : Nat), (((323 : Nat), zs), J3).snd (63 : Nat), (((323 : Nat), zs), J3).snd (64 : Nat), (((323 : Nat), zs), J3).snd (65 : Nat), (((323 : Nat), zs), J3).snd (66 : Nat), Value.slice xa1 n n, pv xb1 3, iv sd, iv (pickI sd (26 : Int)), uv (pickI sd (26 : Int)), uv ((65 : Int) + pickI sd (26 : Int)), pv (blk xa1) 308, Value.slice xa1 n n, pv (blk xa1) 309, Value.slice xa1 n n, pv (blk xa1) 323, Value.slice xa1 n n, pv xb1 0, iv t, uv (t % (256 : Int)), pv (blk xa1) 327, Value.slice xa1 n n, pv xb1 1, iv rc, uv (rc % (256 : Int)), pv (blk xa1) 328, Value.slice xa1 n n, pv xb1 2, iv rr, uv (rr % (256 : Int)), pv (blk xa1) 329, tu, tu, tu, tu, tu, tu, tu, tu, tu, tu, tu, tu, tu, tu, tu, tu, tu, tu, tu, tu, tu, tu, tu, tu, tu, tu, tu, tu, tu, tu, tu, tu, tu, tu, tu, tu, tu, tu, tu, tu, tu] [93, 94, 95, 96, 97, 98, 99, 100, 101, 102, 103, 104, 105, 106, 107, 108, 109, 110, 111, 112, 113, 114, 115, 116, 117, 118, 119, 120, 121] (((fun x => [(8, .int .i64 (x.1 : Nat))]) : (Nat × List Int) → List (Nat × Go.Value)) x.1) x.2) (fun x => ((fun x => [bts xa1 n n x.2, row xb1 26 [.int .i64 t, .int .i64 rc, .int .i64 rr, .int .i64 sd, .int .i64 mo, .slice pa np pc, .slice qa nq qc, .bool false], A]) : (Nat × List Int) → List Go.Sl.HP) x.1) (((0, X0)), fun j9 => ([Value.agg #[iv t, iv rc, iv rr, iv sd, iv mo, Value.slice pa np pc, Value.slice qa nq qc, Value.bool false], pv xb1 0, Value.slice none (0 : Nat) (0 : Nat), iv (↑n : Int), Value.slice xa1 n n, iv (↑n : Int), iv 48, iv 323, iv 0, pv xb1 1, iv rc, iv r7, iv (IntKind.i64.wrap ((32768 : Int) * (2 : Int) ^ min r7.toNat IntKind.i64.bits)), pv xb1 4, iv mo, Value.bool !decide (mo = (0 : Int)), J0 16, J0 17, J0 18, J0 19, J0 20, J0 21, iv (↑n : Int), Value.slice xa1 n n, iv (↑n : Int), iv (↑n : Int), Value.bool (decide ((↑n : Int) < (↑n : Int))), J1 27, J1 28, J1 29, J1 30, J1 31, J1 32, J1 33, J1 34, J1 35, iv (↑n : Int), Value.bool (decide ((↑n : Int) > (335 : Int))), Value.bool true, pv xb1 7, Value.bool false, Value.bool true, Value.bool true, iv 48, Value.bool false, (((48 : Nat), ys), J2).snd (45 : Nat), (((48 : Nat), ys), J2).snd (46 : Nat), (((48 : Nat), ys), J2).snd (47 : Nat), (((48 : Nat), ys), J2).snd (48 : Nat), (((48 : Nat), ys), J2).snd (49 : Nat), (((48 : Nat), ys), J2).snd (50 : Nat), (((48 : Nat), ys), J2).snd (51 : Nat), (((48 : Nat), ys), J2).snd (52 : Nat), (((48 : Nat), ys), J2).snd (53 : Nat), (((48 : Nat), ys), J2).snd (54 : Nat), (((48 : Nat), ys), J2).snd (55 : Nat), (((48 : Nat), ys), J2).snd (56 : Nat), (((48 : Nat), ys), J2).snd (57 : Nat), (((48 : Nat), ys), J2).snd (58 : Nat), (((48 : Nat), ys), J2).snd (59 : Nat), iv 323, Value.bool false, (((323 : Nat), zs), J3).snd (62 : Nat), (((323 : Nat), zs), J3).snd (63 : Nat), (((323 : Nat), zs), J3).snd (64 : Nat), (((323 : Nat), zs), J3).snd (65 : Nat), (((323 : Nat), zs), J3).snd (66 : Nat), Value.slice xa1 n n, pv xb1 3, iv sd, iv (pickI sd (26 : Int)), uv (pickI sd (26 : Int)), uv ((65 : Int) + pickI sd (26 : Int)), pv (blk xa1) 308, Value.slice xa1 n n, pv (blk xa1) 309, Value.slice xa1 n n, pv (blk xa1) 323, Value.slice xa1 n n, pv xb1 0, iv t, uv (t % (256 : Int)), pv (blk xa1) 327, Value.slice xa1 n n, pv xb1 1, iv rc, uv (rc % (256 : Int)), pv (blk xa1) 328, Value.slice xa1 n n, pv xb1 2, iv rr, uv (rr % (256 : Int)), pv (blk xa1) 329, tu, tu, tu, tu, tu, tu, tu, tu, tu, tu, tu, tu, tu, tu, tu, tu, tu, tu, tu, tu, tu, tu, tu, tu, tu, tu, tu, tu, tu, tu, tu, tu, tu, tu, tu, tu, tu, tu, tu, tu, tu] : List Value).getD j9 undef) (by kernel_rfl) (by kernel_rfl) ?_ ?_)
  · exact ⟨Nat.zero_le _, Nat.zero_le _, hl4, hB4, fun _ => rfl⟩
  rintro ⟨⟨i, us⟩, J4⟩ hI ih
  obtain ⟨hi5, hi6, hl5, hB5, hf5⟩ := hI
  dsimp only at hi5 hi6 hl5 hB5 hf5
  (focus
    refine Xg.At.same (T' := [Value.agg #[iv t, iv rc, iv rr, iv sd, iv mo, Value.slice pa np pc, Value.slice qa nq qc, Value.bool false], pv xb1 0, Value.slice none (0 : Nat) (0 : Nat), iv (↑n : Int), Value.slice xa1 n n, iv (↑n : Int), iv 48, iv 323, iv (↑i : Int), pv xb1 1, iv rc, iv r7, iv (IntKind.i64.wrap ((32768 : Int) * (2 : Int) ^ min r7.toNat IntKind.i64.bits)), pv xb1 4, iv mo, Value.bool !decide (mo = (0 : Int)), J0 16, J0 17, J0 18, J0 19, J0 20, J0 21, iv (↑n : Int), Value.slice xa1 n n, iv (↑n : Int), iv (↑n : Int), Value.bool (decide ((↑n : Int) < (↑n : Int))), J1 27, J1 28, J1 29, J1 30, J1 31, J1 32, J1 33, J1 34, J1 35, iv (↑n : Int), Value.bool (decide ((↑n : Int) > (335 : Int))), Value.bool true, pv xb1 7, Value.bool false, Value.bool true, Value.bool true, iv 48, Value.bool false, (((48 : Nat), ys), J2).snd (45 : Nat), (((48 : Nat), ys), J2).snd (46 : Nat), (((48 : Nat), ys), J2).snd (47 : Nat), (((48 : Nat), ys), J2).snd (48 : Nat), (((48 : Nat), ys), J2).snd (49 : Nat), (((48 : Nat), ys), J2).snd (50 : Nat), (((48 : Nat), ys), J2).snd (51 : Nat), (((48 : Nat), ys), J2).snd (52 : Nat), (((48 : Nat), ys), J2).snd (53 : Nat), (((48 : Nat), ys), J2).snd (54 : Nat), (((48 : Nat), ys), J2).snd (55 : Nat), (((48 : Nat), ys), J2).snd (56 : Nat), (((48 : Nat), ys), J2).snd (57 : Nat), (((48 : Nat), ys), J2).snd (58 : Nat), (((48 : Nat), ys), J2).snd (59 : Nat), iv 323, Value.bool false, (((323 : Nat), zs), J3).snd (62 : Nat), (((323 : Nat), zs), J3).snd (63 : Nat), (((323 : Nat), zs), J3).snd (64 : Nat), (((323 : Nat), zs), J3).snd (65 : Nat), (((323 : Nat), zs), J3).snd (66 : Nat), Value.slice xa1 n n, pv xb1 3, iv sd, iv (pickI sd (26 : Int)), uv (pickI sd (26 : Int)), uv ((65 : Int) + pickI sd (26 : Int)), pv (blk xa1) 308, Value.slice xa1 n n, pv (blk xa1) 309, Value.slice xa1 n n, pv (blk xa1) 323, Value.slice xa1 n n, pv xb1 0, iv t, uv (t % (256 : Int)), pv (blk xa1) 327, Value.slice xa1 n n, pv xb1 1, iv rc, uv (rc % (256 : Int)), pv (blk xa1) 328, Value.slice xa1 n n, pv xb1 2, iv rr, uv (rr % (256 : Int)), pv (blk xa1) 329, J4 93, J4 94, J4 95, J4 96, J4 97, J4 98, J4 99, J4 100, J4 101, J4 102, J4 103, J4 104, J4 105, J4 106, J4 107, J4 108, J4 109, J4 110, J4 111, J4 112, J4 113, J4 114, J4 115, J4 116, J4 117, J4 118, J4 119, J4 120, J4 121, tu, tu, tu, tu, tu, tu, tu, tu, tu, tu, tu, tu]) (L' := [bts xa1 n n ((i, us), J4).fst.snd, row xb1 (26 : TypeId) [iv t, iv rc, iv rr, iv sd, iv mo, Value.slice pa np pc, Value.slice qa nq qc, Value.bool false], A]) (by kernel_rfl) rfl ?_)
  refine Xg.at_off 0 rfl (by omega) fun hoff => ?_
  by_cases hlt : i < np ∧ i < nq
  · obtain ⟨hlt1, hlt2⟩ := hlt
    have hpd := pick_d (P.getD i 0) n (hPo i hlt1) (by omega)
    have hpl := pick_lt (P.getD i 0) n (by omega)
    have hqo := hQo i hlt2
    obtain ⟨pk, hpk⟩ : ∃ pk : Nat, pickI (P.getD i 0) n = (pk : Int) := ⟨(pickI (P.getD i 0) n).toNat, by omega⟩
    rw [hpk] at hpd hpl
    (focus
      refine Xg.at_seq ?_
      refine Xg.at_seq ?_
      refine Xg.at_region ?_
      refine Xg.ops_op (by kernel_rfl) (Xg.opx_pure ((iv (↑i : Int))) rfl (fun _ => by kernel_rfl) ?_)
      refine Xg.ops_op (by kernel_rfl) (Xg.opx_pure ((pv xb1 5)) rfl (fun _ => by kernel_rfl) ?_)
      refine Xg.ops_op (by kernel_rfl) (Xg.opx_load (b := xb1) (off := ((5 : Nat))) 1 (Value.slice pa np pc) rfl (by kernel_rfl) (by kernel_rfl) (by kernel_rfl) ?_)
      refine Xg.ops_op (by kernel_rfl) (Xg.opx_pure ((iv (↑np : Int))) rfl (fun _ => by kernel_rfl) ?_)
      refine Xg.ops_op (by kernel_rfl) (Xg.opx_pure (.bool (decide ((((↑i : Int)) : Int) < ((↑np : Int))))) rfl (fun _ => by kernel_rfl) ?_)
      refine Xg.ops_op (by kernel_rfl) (Xg.opx_pure ((Value.bool (decide ((↑i : Int) < (↑np : Int))))) rfl (fun _ => by kernel_rfl) ?_)
      refine Xg.ops_flag (j := 98) (c := (decide ((↑i : Int) < (↑np : Int)))) (by kernel_rfl) (fun _ => ?_) (fun xh2 => absurd (of_decide_eq_false xh2) (by omega))
      refine Xg.ops_op (by kernel_rfl) (Xg.opx_pure ((iv (↑i : Int))) rfl (fun _ => by kernel_rfl) ?_)
      refine Xg.ops_op (by kernel_rfl) (Xg.opx_pure ((pv xb1 6)) rfl (fun _ => by kernel_rfl) ?_)
      refine Xg.ops_op (by kernel_rfl) (Xg.opx_load (b := xb1) (off := ((6 : Nat))) 1 (Value.slice qa nq qc) rfl (by kernel_rfl) (by kernel_rfl) (by kernel_rfl) ?_)
      refine Xg.ops_op (by kernel_rfl) (Xg.opx_pure ((iv (↑nq : Int))) rfl (fun _ => by kernel_rfl) ?_)
      refine Xg.ops_op (by kernel_rfl) (Xg.opx_pure (.bool (decide ((((↑i : Int)) : Int) < ((↑nq : Int))))) rfl (fun _ => by kernel_rfl) ?_)
      refine Xg.ops_flag (j := 103) (c := (decide ((↑i : Int) < (↑nq : Int)))) (by kernel_rfl) (fun _ => ?_) (fun xh2 => absurd (of_decide_eq_false xh2) (by omega))
      refine Xg.ops_op (by kernel_rfl) (Xg.opx_pure ((Value.bool true)) rfl (fun _ => by kernel_rfl) ?_)
      refine Xg.ops_nil ?_
      refine Xg.at_true (t := true) (by kernel_rfl) rfl ?_
      refine Xg.at_skip ?_
      refine Xg.at_seq ?_
      refine Xg.at_block ?_
      refine Xg.at_draw [7, 15] [(2, [0, 1, 2, 3, 6, 8, 9, 10, 11, 12, 13], Xg.CellIs (xb1) (((5 : Nat))) ((Value.slice pa np pc))), (4, [0, 1, 2, 3, 4, 6, 8, 9, 10, 11, 12, 13], (RdIs (1 : Nat) (Value.slice pa np pc) np (List.map (Value.int IntKind.i64) P))), (5, [0, 1, 2, 3, 4, 5, 6, 8, 9, 10, 11, 12, 13], (RdIs (1 : Nat) (Value.slice pa np pc) np (List.map (Value.int IntKind.i64) P))), (9, [0, 1, 2, 3, 4, 5, 6, 7, 8, 9, 10], Xg.CellIs (xb1) (((6 : Nat))) ((Value.slice qa nq qc))), (11, [0, 1, 2, 3, 4, 5, 6, 7, 8, 9, 10, 11], (RdIs (1 : Nat) (Value.slice qa nq qc) nq (List.map (Value.int IntKind.i64) Q))), (12, [0, 1, 2, 3, 4, 5, 6, 7, 8, 9, 10, 11, 12], (RdIs (1 : Nat) (Value.slice qa nq qc) nq (List.map (Value.int IntKind.i64) Q))), (14, [0, 1, 2, 3, 4, 5, 6, 7, 8, 9, 10, 11, 12, 13, 14], (RdIs (1 : Nat) (Value.slice xa1 n n) n (List.map (Value.int IntKind.u8) us)))] (by kernel_rfl) ?_
      refine Xg.any_pure ((Value.slice xa1 n n)) 0 (by kernel_rfl) rfl (by kernel_rfl) (by kernel_rfl) (by kernel_rfl) (by kernel_rfl) rfl (fun _ => by kernel_rfl) ?_
      refine Xg.any_pure ((pv xb1 5)) 1 (by kernel_rfl) rfl (by kernel_rfl) (by kernel_rfl) (by kernel_rfl) (by kernel_rfl) rfl (fun _ => by kernel_rfl) ?_
      refine Xg.any_reads (Value.slice pa np pc) 2 0 (by kernel_rfl) rfl (by kernel_rfl) (by kernel_rfl) (by kernel_rfl) (by kernel_rfl) rfl rfl (by kernel_rfl) (Xg.cell_now (b := xb1) (off := ((5 : Nat))) 1 rfl (by kernel_rfl)) (fun _ h => Xg.run_load (by kernel_rfl) (by kernel_rfl) h) ?_
      refine Xg.any_pure ((iv (↑i : Int))) 3 (by kernel_rfl) rfl (by kernel_rfl) (by kernel_rfl) (by kernel_rfl) (by kernel_rfl) rfl (fun _ => by kernel_rfl) ?_
      refine Xg.any_reads (.pointer (some (Addr.mk (Xg.blk pa) (offA pa + i) none))) 4 1 (by kernel_rfl) rfl (by kernel_rfl) (by kernel_rfl) (by kernel_rfl) (by kernel_rfl) rfl rfl (by kernel_rfl) (Xg.rd_now 2 hRP (by kernel_rfl)) (Xg.run_ix_rd (elem := 3) (kd := .i64) (e := ((↑i : Int))) 1 i (offA pa + i) (by kernel_rfl) (by kernel_rfl) (by kernel_rfl) (by kernel_rfl) rfl (by omega) (by simp only [List.length_map]; omega) (by omega)) ?_
      refine Xg.any_reads (iv (P.getD i (0 : Int))) 5 2 (by kernel_rfl) rfl (by kernel_rfl) (by kernel_rfl) (by kernel_rfl) (by kernel_rfl) rfl rfl (by kernel_rfl) (Xg.rd_now 2 hRP (by kernel_rfl)) (Xg.run_load_rd (off0 := (offA pa + i)) i (by kernel_rfl) (by omega) (Xg.get_ints (by omega)) (by kernel_rfl)) ?_
      refine Xg.any_pure ((iv (↑n : Int))) 6 (by kernel_rfl) rfl (by kernel_rfl) (by kernel_rfl) (by kernel_rfl) (by kernel_rfl) rfl (fun _ => by kernel_rfl) ?_
      refine Xg.any_pure ((pv xb1 6)) 8 (by kernel_rfl) rfl (by kernel_rfl) (by kernel_rfl) (by kernel_rfl) (by kernel_rfl) rfl (fun _ => by kernel_rfl) ?_
      refine Xg.any_reads (Value.slice qa nq qc) 9 3 (by kernel_rfl) rfl (by kernel_rfl) (by kernel_rfl) (by kernel_rfl) (by kernel_rfl) rfl rfl (by kernel_rfl) (Xg.cell_now (b := xb1) (off := ((6 : Nat))) 1 rfl (by kernel_rfl)) (fun _ h => Xg.run_load (by kernel_rfl) (by kernel_rfl) h) ?_
      refine Xg.any_pure ((iv (↑i : Int))) 10 (by kernel_rfl) rfl (by kernel_rfl) (by kernel_rfl) (by kernel_rfl) (by kernel_rfl) rfl (fun _ => by kernel_rfl) ?_
      refine Xg.any_reads (.pointer (some (Addr.mk (Xg.blk qa) (offA qa + i) none))) 11 4 (by kernel_rfl) rfl (by kernel_rfl) (by kernel_rfl) (by kernel_rfl) (by kernel_rfl) rfl rfl (by kernel_rfl) (Xg.rd_now 2 hRQ (by kernel_rfl)) (Xg.run_ix_rd (elem := 3) (kd := .i64) (e := ((↑i : Int))) 1 i (offA qa + i) (by kernel_rfl) (by kernel_rfl) (by kernel_rfl) (by kernel_rfl) rfl (by omega) (by simp only [List.length_map]; omega) (by omega)) ?_
      refine Xg.any_reads (iv (Q.getD i (0 : Int))) 12 5 (by kernel_rfl) rfl (by kernel_rfl) (by kernel_rfl) (by kernel_rfl) (by kernel_rfl) rfl rfl (by kernel_rfl) (Xg.rd_now 2 hRQ (by kernel_rfl)) (Xg.run_load_rd (off0 := (offA qa + i)) i (by kernel_rfl) (by omega) (Xg.get_ints (by omega)) (by kernel_rfl)) ?_
      refine Xg.any_int .u8 (IntKind.wrap .u8 ((Q.getD i (0 : Int)))) 13 (by kernel_rfl) rfl (by kernel_rfl) (by kernel_rfl) (by kernel_rfl) (by kernel_rfl) rfl (fun _ => by kernel_rfl) (Xg.wrap_u8_mod _) ?_
      refine Xg.any_each [7] (by kernel_rfl) rfl ⟨?_, trivial⟩
      refine Xg.comes_act rfl (by kernel_rfl) (by kernel_rfl) (Xg.opx_call1' [] [bts xa1 n n us, row xb1 (26 : TypeId) [iv t, iv rc, iv rr, iv sd, iv mo, Value.slice pa np pc, Value.slice qa nq qc, Value.bool false], A] (fun _ => by kernel_rfl) (@hpd ) (by kernel_rfl) (by kernel_rfl) (by kernel_rfl) ?_)
      refine Xg.acts (Xg.owes_skip (by kernel_rfl) (Xg.owes_skip (by kernel_rfl) (Xg.owes_skip (by kernel_rfl) (Xg.owes_cell 1 rfl (by kernel_rfl) (Xg.owes_rd 2 hRQ (by kernel_rfl) (Xg.owes_rd 2 hRQ (by kernel_rfl) (Xg.owes_rd 0 (Xg.reads_own (E := ((5 : TypeId))) (sz := ((1 : Nat))) (n := n) (c := n) (a := xa1) (vs := (List.map (Value.int IntKind.u8) us))) (by kernel_rfl) Xg.owes_nil))))))) ?_
      refine Xg.any_reads (.pointer (some (Addr.mk (Xg.blk xa1) (offA xa1 + pk) none))) 14 6 (by kernel_rfl) rfl (by kernel_rfl) (by kernel_rfl) (by kernel_rfl) (by kernel_rfl) rfl rfl (by kernel_rfl) (Xg.rd_now 0 (Xg.reads_own (E := ((5 : TypeId))) (sz := ((1 : Nat))) (n := n) (c := n) (a := xa1) (vs := (List.map (Value.int IntKind.u8) us))) (by kernel_rfl)) (Xg.run_ix_rd (elem := 5) (kd := .i64) (e := ((↑pk : Int))) 1 pk (offA xa1 + pk) (by kernel_rfl) (by kernel_rfl) (by kernel_rfl) (by kernel_rfl) rfl (by omega) (by simp only [List.length_map]; omega) (by omega)) ?_
      refine Xg.any_each [15] (by kernel_rfl) rfl ⟨?_, trivial⟩
      refine Xg.comes_act rfl (by kernel_rfl) (by kernel_rfl) (Xg.opx_store_own_i (a := xa1) (off := (offA xa1 + pk)) (kd := .u8) (xs := us) (e := (Q.getD i (0 : Int) % (256 : Int))) 0 (by kernel_rfl) rfl (by kernel_rfl) (by kernel_rfl) (by first | omega | (simp only [List.length_set]; omega)) ?_)
      refine Xg.acts (Xg.owes_skip (by kernel_rfl) (Xg.owes_skip (by kernel_rfl) (Xg.owes_skip (by kernel_rfl) (Xg.owes_skip (by kernel_rfl) (Xg.owes_skip (by kernel_rfl) (Xg.owes_skip (by kernel_rfl) (Xg.owes_skip (by kernel_rfl) Xg.owes_nil))))))) ?_
      refine Xg.any_nil (by kernel_rfl) ?_
      refine Xg.at_inBlock ?_
      refine Xg.at_region ?_
      refine Xg.ops_op (by kernel_rfl) (Xg.opx_pure ((iv (↑i : Int))) rfl (fun _ => by kernel_rfl) ?_)
      refine Xg.ops_op (by kernel_rfl) (Xg.opx_int .i64 (IntKind.wrap .i64 (((↑i : Int) + (1 : Int)))) rfl (fun _ => by kernel_rfl) (Xg.wrap_i64_in (by omega)) ?_)
      refine Xg.ops_op (by kernel_rfl) (Xg.opx_pure ((iv ((↑i : Int) + (1 : Int)))) rfl (fun _ => by kernel_rfl) ?_)
      refine Xg.ops_nil ?_
      refine Xg.at_inLoop ?_)
    (focus
      refine Xg.at_keep [0, 1, 2] (by kernel_rfl) ?_
      refine Xs.same ?_ (fun J9 => ih (((i + 1, us.set (offA xa1 + pk) (Q.getD i 0 % 256))), J9) ?_ ?_) (by kernel_rfl))
    · rfl
    · exact ⟨hlt1, hlt2, by rw [List.length_set]; exact hl5, isB_set _ hB5 (by omega), fun e => by omega⟩
    · show np - (i + 1) < np - i; omega
  clear ih
  have hls := lsum_d (bts xa1 n n us) xa1 n n us hl5 (by omega) (by omega) (fun i hi => isB_get hB5 (by omega)) Xg.reads_own
  have hfin : ((us.set 333 ((231 - hsum us 25) % 256)).length = n ∧ isB (us.set 333 ((231 - hsum us 25) % 256)) ∧ (231 - hsum (us.set 333 ((231 - hsum us 25) % 256)) 25) % 256 = (us.set 333 ((231 - hsum us 25) % 256)).getD 333 0 ∧ (np = 0 → ∀ k, k ≠ 333 → k < n → (us.set 333 ((231 - hsum us 25) % 256)).getD k 0 = romP t rc rr sd k)) := by
    refine ⟨by rw [List.length_set]; exact hl5, isB_set _ hB5 (by omega), ?_, fun e k hk hkn => ?_⟩
    · rw [hsum_set _ _ _ (by omega) (by omega), getD_set _ _ _ _ (by omega), if_pos rfl]
    · rw [getD_set _ _ _ _ (by omega), if_neg hk, hf5 e]; exact hf4 k hkn
  by_cases hlt1 : i < np
  · (focus
      refine Xg.at_seq ?_
      refine Xg.at_seq ?_
      refine Xg.at_region ?_
      refine Xg.ops_op (by kernel_rfl) (Xg.opx_pure ((iv (↑i : Int))) rfl (fun _ => by kernel_rfl) ?_)
      refine Xg.ops_op (by kernel_rfl) (Xg.opx_pure ((pv xb1 5)) rfl (fun _ => by kernel_rfl) ?_)
      refine Xg.ops_op (by kernel_rfl) (Xg.opx_load (b := xb1) (off := ((5 : Nat))) 1 (Value.slice pa np pc) rfl (by kernel_rfl) (by kernel_rfl) (by kernel_rfl) ?_)
      refine Xg.ops_op (by kernel_rfl) (Xg.opx_pure ((iv (↑np : Int))) rfl (fun _ => by kernel_rfl) ?_)
      refine Xg.ops_op (by kernel_rfl) (Xg.opx_pure (.bool (decide ((((↑i : Int)) : Int) < ((↑np : Int))))) rfl (fun _ => by kernel_rfl) ?_)
      refine Xg.ops_op (by kernel_rfl) (Xg.opx_pure ((Value.bool (decide ((↑i : Int) < (↑np : Int))))) rfl (fun _ => by kernel_rfl) ?_)
      refine Xg.ops_flag (j := 98) (c := (decide ((↑i : Int) < (↑np : Int)))) (by kernel_rfl) (fun _ => ?_) (fun xh2 => absurd (of_decide_eq_false xh2) (by omega))
      refine Xg.ops_op (by kernel_rfl) (Xg.opx_pure ((iv (↑i : Int))) rfl (fun _ => by kernel_rfl) ?_)
      refine Xg.ops_op (by kernel_rfl) (Xg.opx_pure ((pv xb1 6)) rfl (fun _ => by kernel_rfl) ?_)
      refine Xg.ops_op (by kernel_rfl) (Xg.opx_load (b := xb1) (off := ((6 : Nat))) 1 (Value.slice qa nq qc) rfl (by kernel_rfl) (by kernel_rfl) (by kernel_rfl) ?_)
      refine Xg.ops_op (by kernel_rfl) (Xg.opx_pure ((iv (↑nq : Int))) rfl (fun _ => by kernel_rfl) ?_)
      refine Xg.ops_op (by kernel_rfl) (Xg.opx_pure (.bool (decide ((((↑i : Int)) : Int) < ((↑nq : Int))))) rfl (fun _ => by kernel_rfl) ?_)
      refine Xg.ops_flag (j := 103) (c := (decide ((↑i : Int) < (↑nq : Int)))) (by kernel_rfl) (fun xh2 => absurd (of_decide_eq_true xh2) (by omega)) (fun _ => ?_)
      refine Xg.ops_op (by kernel_rfl) (Xg.opx_pure ((Value.bool false)) rfl (fun _ => by kernel_rfl) ?_)
      refine Xg.ops_nil ?_
      refine Xg.at_false (t := false) (by kernel_rfl) rfl ?_
      refine Xg.at_exit rfl ?_
      refine Xg.at_seq ?_
      refine Xg.at_seq ?_
      refine Xg.at_region ?_
      refine Xg.ops_op (by kernel_rfl) (Xg.opx_pure ((iv (↑n : Int))) rfl (fun _ => by kernel_rfl) ?_)
      refine Xg.ops_op (by kernel_rfl) (Xg.opx_pure (.bool (decide ((((↑n : Int)) : Int) > ((335 : Int))))) rfl (fun _ => by kernel_rfl) ?_)
      refine Xg.ops_op (by kernel_rfl) (Xg.opx_pure ((Value.bool (decide ((↑n : Int) > (335 : Int))))) rfl (fun _ => by kernel_rfl) ?_)
      refine Xg.ops_flag (j := 124) (c := (decide ((↑n : Int) > (335 : Int)))) (by kernel_rfl) (fun _ => ?_) (fun xh2 => absurd (of_decide_eq_false xh2) (by omega))
      refine Xg.ops_op (by kernel_rfl) (Xg.opx_pure ((pv xb1 7)) rfl (fun _ => by kernel_rfl) ?_)
      refine Xg.ops_op (by kernel_rfl) (Xg.opx_load (b := xb1) (off := ((7 : Nat))) 1 (Value.bool false) rfl (by kernel_rfl) (by kernel_rfl) (by kernel_rfl) ?_)
      refine Xg.ops_op (by kernel_rfl) (Xg.opx_pure (.bool true) rfl (fun _ => by kernel_rfl) ?_)
      refine Xg.ops_op (by kernel_rfl) (Xg.opx_pure ((Value.bool true)) rfl (fun _ => by kernel_rfl) ?_)
      refine Xg.ops_nil ?_
      refine Xg.at_true (t := true) (by kernel_rfl) rfl ?_
      refine Xg.at_region ?_
      refine Xg.ops_op (by kernel_rfl) (Xg.opx_pure ((Value.slice xa1 n n)) rfl (fun _ => by kernel_rfl) ?_)
      refine Xg.ops_op (by kernel_rfl) (Xg.opx_pure ((Value.slice xa1 n n)) rfl (fun _ => by kernel_rfl) ?_)
      refine Xg.ops_op (by kernel_rfl) (Xg.opx_call1' [0] [bts xa1 n n us, row xb1 (26 : TypeId) [iv t, iv rc, iv rr, iv sd, iv mo, Value.slice pa np pc, Value.slice qa nq qc, Value.bool false], A] (fun _ => by kernel_rfl) (@hls ) (by kernel_rfl) (by kernel_rfl) (by kernel_rfl) ?_)
      refine Xg.ops_op (by kernel_rfl) (Xg.opx_ix_own (elem := 5) (kd := .i64) (e := ((333 : Int))) 0 1 ((333 : Nat)) ((333 : Nat)) rfl (by kernel_rfl) (by kernel_rfl) (by kernel_rfl) (by kernel_rfl) rfl (by omega) (by omega) ?_)
      refine Xg.ops_op (by kernel_rfl) (Xg.opx_store_own_i (a := xa1) (off := ((333 : Nat))) (kd := .u8) (xs := us) (e := (((231 : Int) - hsum us (25 : Nat)) % (256 : Int))) 0 (by kernel_rfl) rfl (by kernel_rfl) (by kernel_rfl) (by first | omega | (simp only [List.length_set]; omega)) ?_)
      refine Xg.ops_nil ?_
      refine Xg.at_seq ?_
      refine Xg.at_region ?_
      refine Xg.ops_op (by kernel_rfl) (Xg.opx_pure ((Value.slice xa1 n n)) rfl (fun _ => by kernel_rfl) ?_)
      refine Xg.ops_op (by kernel_rfl) (Xg.opx_pure ((Value.slice xa1 n n)) rfl (fun _ => by kernel_rfl) ?_)
      refine Xg.ops_nil ?_
      refine Xg.at_ret_ps (v := (Value.slice xa1 n n)) [0, 2] [ownS (5 : TypeId) (1 : Nat) (Value.slice xa1 n n) n (List.map (Value.int IntKind.u8) (us.set (333 : Nat) (((231 : Int) - hsum us (25 : Nat)) % (256 : Int)))), A] Go.Proofs.Tryd.func8 (fun _ => by kernel_rfl) (by kernel_rfl) (by kernel_rfl) ?_
      refine ⟨((xa1, us.set (333 : Nat) (((231 : Int) - hsum us (25 : Nat)) % (256 : Int)))), ?_, by kernel_rfl, by kernel_rfl⟩)
    exact hfin
  · (focus
      refine Xg.at_seq ?_
      refine Xg.at_seq ?_
      refine Xg.at_region ?_
      refine Xg.ops_op (by kernel_rfl) (Xg.opx_pure ((iv (↑i : Int))) rfl (fun _ => by kernel_rfl) ?_)
      refine Xg.ops_op (by kernel_rfl) (Xg.opx_pure ((pv xb1 5)) rfl (fun _ => by kernel_rfl) ?_)
      refine Xg.ops_op (by kernel_rfl) (Xg.opx_load (b := xb1) (off := ((5 : Nat))) 1 (Value.slice pa np pc) rfl (by kernel_rfl) (by kernel_rfl) (by kernel_rfl) ?_)
      refine Xg.ops_op (by kernel_rfl) (Xg.opx_pure ((iv (↑np : Int))) rfl (fun _ => by kernel_rfl) ?_)
      refine Xg.ops_op (by kernel_rfl) (Xg.opx_pure (.bool (decide ((((↑i : Int)) : Int) < ((↑np : Int))))) rfl (fun _ => by kernel_rfl) ?_)
      refine Xg.ops_op (by kernel_rfl) (Xg.opx_pure ((Value.bool (decide ((↑i : Int) < (↑np : Int))))) rfl (fun _ => by kernel_rfl) ?_)
      refine Xg.ops_flag (j := 98) (c := (decide ((↑i : Int) < (↑np : Int)))) (by kernel_rfl) (fun xh2 => absurd (of_decide_eq_true xh2) (by omega)) (fun _ => ?_)
      refine Xg.ops_skip (by kernel_rfl) ?_
      refine Xg.ops_skip (by kernel_rfl) ?_
      refine Xg.ops_skip (by kernel_rfl) ?_
      refine Xg.ops_skip (by kernel_rfl) ?_
      refine Xg.ops_skip (by kernel_rfl) ?_
      refine Xg.ops_op (by kernel_rfl) (Xg.opx_pure ((Value.bool false)) rfl (fun _ => by kernel_rfl) ?_)
      refine Xg.ops_nil ?_
      refine Xg.at_false (t := false) (by kernel_rfl) rfl ?_
      refine Xg.at_exit rfl ?_
      refine Xg.at_seq ?_
      refine Xg.at_seq ?_
      refine Xg.at_region ?_
      refine Xg.ops_op (by kernel_rfl) (Xg.opx_pure ((iv (↑n : Int))) rfl (fun _ => by kernel_rfl) ?_)
      refine Xg.ops_op (by kernel_rfl) (Xg.opx_pure (.bool (decide ((((↑n : Int)) : Int) > ((335 : Int))))) rfl (fun _ => by kernel_rfl) ?_)
      refine Xg.ops_op (by kernel_rfl) (Xg.opx_pure ((Value.bool (decide ((↑n : Int) > (335 : Int))))) rfl (fun _ => by kernel_rfl) ?_)
      refine Xg.ops_flag (j := 124) (c := (decide ((↑n : Int) > (335 : Int)))) (by kernel_rfl) (fun _ => ?_) (fun xh2 => absurd (of_decide_eq_false xh2) (by omega))
      refine Xg.ops_op (by kernel_rfl) (Xg.opx_pure ((pv xb1 7)) rfl (fun _ => by kernel_rfl) ?_)
      refine Xg.ops_op (by kernel_rfl) (Xg.opx_load (b := xb1) (off := ((7 : Nat))) 1 (Value.bool false) rfl (by kernel_rfl) (by kernel_rfl) (by kernel_rfl) ?_)
      refine Xg.ops_op (by kernel_rfl) (Xg.opx_pure (.bool true) rfl (fun _ => by kernel_rfl) ?_)
      refine Xg.ops_op (by kernel_rfl) (Xg.opx_pure ((Value.bool true)) rfl (fun _ => by kernel_rfl) ?_)
      refine Xg.ops_nil ?_
      refine Xg.at_true (t := true) (by kernel_rfl) rfl ?_
      refine Xg.at_region ?_
      refine Xg.ops_op (by kernel_rfl) (Xg.opx_pure ((Value.slice xa1 n n)) rfl (fun _ => by kernel_rfl) ?_)
      refine Xg.ops_op (by kernel_rfl) (Xg.opx_pure ((Value.slice xa1 n n)) rfl (fun _ => by kernel_rfl) ?_)
      refine Xg.ops_op (by kernel_rfl) (Xg.opx_call1' [0] [bts xa1 n n us, row xb1 (26 : TypeId) [iv t, iv rc, iv rr, iv sd, iv mo, Value.slice pa np pc, Value.slice qa nq qc, Value.bool false], A] (fun _ => by kernel_rfl) (@hls ) (by kernel_rfl) (by kernel_rfl) (by kernel_rfl) ?_)
      refine Xg.ops_op (by kernel_rfl) (Xg.opx_ix_own (elem := 5) (kd := .i64) (e := ((333 : Int))) 0 1 ((333 : Nat)) ((333 : Nat)) rfl (by kernel_rfl) (by kernel_rfl) (by kernel_rfl) (by kernel_rfl) rfl (by omega) (by omega) ?_)
      refine Xg.ops_op (by kernel_rfl) (Xg.opx_store_own_i (a := xa1) (off := ((333 : Nat))) (kd := .u8) (xs := us) (e := (((231 : Int) - hsum us (25 : Nat)) % (256 : Int))) 0 (by kernel_rfl) rfl (by kernel_rfl) (by kernel_rfl) (by first | omega | (simp only [List.length_set]; omega)) ?_)
      refine Xg.ops_nil ?_
      refine Xg.at_seq ?_
      refine Xg.at_region ?_
      refine Xg.ops_op (by kernel_rfl) (Xg.opx_pure ((Value.slice xa1 n n)) rfl (fun _ => by kernel_rfl) ?_)
      refine Xg.ops_op (by kernel_rfl) (Xg.opx_pure ((Value.slice xa1 n n)) rfl (fun _ => by kernel_rfl) ?_)
      refine Xg.ops_nil ?_
      refine Xg.at_ret_ps (v := (Value.slice xa1 n n)) [0, 2] [ownS (5 : TypeId) (1 : Nat) (Value.slice xa1 n n) n (List.map (Value.int IntKind.u8) (us.set (333 : Nat) (((231 : Int) - hsum us (25 : Nat)) % (256 : Int)))), A] Go.Proofs.Tryd.func8 (fun _ => by kernel_rfl) (by kernel_rfl) (by kernel_rfl) ?_
      refine ⟨((xa1, us.set (333 : Nat) (((231 : Int) - hsum us (25 : Nat)) % (256 : Int)))), ?_, by kernel_rfl, by kernel_rfl⟩)
    exact hfin
end Go.Proofs.YthjhkondmobaeaaDoor
