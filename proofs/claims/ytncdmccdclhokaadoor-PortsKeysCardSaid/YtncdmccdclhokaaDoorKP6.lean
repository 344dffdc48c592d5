/- The ports package's functions: reads, writes, requests. -/
import Derived.Test.YtncdmccdclhokaaDoorKP5
namespace Go.Proofs.YtncdmccdclhokaaDoor
open Go.Sl Go.Xg
set_option linter.unusedVariables false
set_option linter.unusedSimpArgs false
set_option maxHeartbeats 4000000
set_option maxRecDepth 100000
variable {te : TypeId}

/-- What a port reads (as a byte). -/
def rdI : Nat → Po → Int
  | 0, σ => bor .u8 (bor .u8 192 σ.rows) (keysI σ.buttons σ.rows)
  | 1, σ => σ.shift
  | 2, σ => bor .u8 126 σ.line
  | 3, σ => IntKind.wrap .u8 (σ.counter / 256)
  | 4, σ => σ.timer
  | 5, σ => σ.again
  | 6, σ => bor .u8 248 σ.control
  | _, σ => bor .u8 224 σ.requests

theorem readButtons_d (p : Nat) (σ : Po) (hσ : σ.Wf) (s : Value) : Does Tryd.prog 42 [pt p] [PoR p σ s] (Ret (.int .u8 (rdI 0 σ)) [PoR p σ s]) := by
  (focus
    refine Xg.spec_of Go.Proofs.Tryd.func42 rfl Go.Proofs.Tryd.ntmps42 fun g F => ?_)
  (focus
    refine Xg.at_seq ?_
    refine Xg.at_region ?_
    refine Xg.ops_op (by kernel_rfl) (Xg.opx_pure ((Value.int IntKind.u8 (0 : Int))) rfl (fun _ => by kernel_rfl) ?_)
    refine Xg.ops_nil ?_
    refine Xg.at_seq ?_
    refine Xg.at_draw [6] [(3, [0, 1, 2, 3, 5, 6], Xg.CellIs (p) (((1 : Nat))) ((Value.int IntKind.u8 σ.rows)))] (by kernel_rfl) ?_
    refine Xg.any_pure ((Value.pointer (some (Addr.mk p (0 : Nat) none)))) 0 (by kernel_rfl) rfl (by kernel_rfl) (by kernel_rfl) (by kernel_rfl) (by kernel_rfl) rfl (fun _ => by kernel_rfl) ?_
    refine Xg.any_pure ((Value.pointer (some (Addr.mk p (0 : Nat) none)))) 1 (by kernel_rfl) rfl (by kernel_rfl) (by kernel_rfl) (by kernel_rfl) (by kernel_rfl) rfl (fun _ => by kernel_rfl) ?_
    refine Xg.any_pure ((Value.pointer (some (Addr.mk p (1 : Nat) none)))) 2 (by kernel_rfl) rfl (by kernel_rfl) (by kernel_rfl) (by kernel_rfl) (by kernel_rfl) rfl (fun _ => by kernel_rfl) ?_
    refine Xg.any_reads (Value.int IntKind.u8 σ.rows) 3 0 (by kernel_rfl) rfl (by kernel_rfl) (by kernel_rfl) (by kernel_rfl) (by kernel_rfl) rfl rfl (by kernel_rfl) (Xg.cell_now (b := p) (off := ((1 : Nat))) 0 rfl (by kernel_rfl)) (fun _ h => Xg.run_load (by kernel_rfl) (by kernel_rfl) h) ?_
    refine Xg.any_pure (.int .u8 (Xg.bor .u8 (((192 : Int))) (σ.rows))) 4 (by kernel_rfl) rfl (by kernel_rfl) (by kernel_rfl) (by kernel_rfl) (by kernel_rfl) rfl (fun _ => by kernel_rfl) ?_
    refine Xg.any_pure ((Value.pointer (some (Addr.mk p (0 : Nat) none)))) 5 (by kernel_rfl) rfl (by kernel_rfl) (by kernel_rfl) (by kernel_rfl) (by kernel_rfl) rfl (fun _ => by kernel_rfl) ?_
    refine Xg.any_each [6] (by kernel_rfl) rfl ⟨?_, trivial⟩
    refine Xg.comes_act rfl (by kernel_rfl) (by kernel_rfl) (Xg.opx_call1 [0] (fun _ => by kernel_rfl) (@Go.Proofs.YtncdmccdclhokaaDoor.keys_d (p) (σ) (s)) (by kernel_rfl) (by kernel_rfl) ?_)
    refine Xg.acts (Xg.owes_cell 0 rfl (by kernel_rfl) Xg.owes_nil) ?_
    refine Xg.any_pure (.int .u8 (Xg.bor .u8 ((bor IntKind.u8 (192 : Int) σ.rows)) ((keysI σ.buttons σ.rows)))) 7 (by kernel_rfl) rfl (by kernel_rfl) (by kernel_rfl) (by kernel_rfl) (by kernel_rfl) rfl (fun _ => by kernel_rfl) ?_
    refine Xg.any_pure ((Value.int IntKind.u8 (bor IntKind.u8 (bor IntKind.u8 (192 : Int) σ.rows) (keysI σ.buttons σ.rows)))) 8 (by kernel_rfl) rfl (by kernel_rfl) (by kernel_rfl) (by kernel_rfl) (by kernel_rfl) rfl (fun _ => by kernel_rfl) ?_
    refine Xg.any_nil (by kernel_rfl) ?_
    refine Xg.at_ret_ps (v := (Value.int IntKind.u8 (bor IntKind.u8 (bor IntKind.u8 (192 : Int) σ.rows) (keysI σ.buttons σ.rows)))) [0] [PoR p σ s] Go.Proofs.Tryd.func42 (fun _ => by kernel_rfl) (by kernel_rfl) (by kernel_rfl) ?_
    exact ⟨by kernel_rfl, by kernel_rfl⟩)


theorem readShift_d (p : Nat) (σ : Po) (hσ : σ.Wf) (s : Value) : Does Tryd.prog 44 [pt p] [PoR p σ s] (Ret (.int .u8 (rdI 1 σ)) [PoR p σ s]) := by
  (focus
    refine Xg.spec_of Go.Proofs.Tryd.func44 rfl Go.Proofs.Tryd.ntmps44 fun g F => ?_)
  (focus
    refine Xg.at_seq ?_
    refine Xg.at_region ?_
    refine Xg.ops_op (by kernel_rfl) (Xg.opx_pure ((Value.int IntKind.u8 (0 : Int))) rfl (fun _ => by kernel_rfl) ?_)
    refine Xg.ops_nil ?_
    refine Xg.at_seq ?_
    refine Xg.at_region ?_
    refine Xg.ops_op (by kernel_rfl) (Xg.opx_pure ((Value.pointer (some (Addr.mk p (0 : Nat) none)))) rfl (fun _ => by kernel_rfl) ?_)
    refine Xg.ops_op (by kernel_rfl) (Xg.opx_pure ((Value.pointer (some (Addr.mk p (0 : Nat) none)))) rfl (fun _ => by kernel_rfl) ?_)
    refine Xg.ops_op (by kernel_rfl) (Xg.opx_pure ((Value.pointer (some (Addr.mk p (2 : Nat) none)))) rfl (fun _ => by kernel_rfl) ?_)
    refine Xg.ops_op (by kernel_rfl) (Xg.opx_load (b := p) (off := ((2 : Nat))) 0 (Value.int IntKind.u8 σ.shift) rfl (by kernel_rfl) (by kernel_rfl) (by kernel_rfl) ?_)
    refine Xg.ops_op (by kernel_rfl) (Xg.opx_pure ((Value.int IntKind.u8 σ.shift)) rfl (fun _ => by kernel_rfl) ?_)
    refine Xg.ops_nil ?_
    refine Xg.at_ret_ps (v := (Value.int IntKind.u8 σ.shift)) [0] [PoR p σ s] Go.Proofs.Tryd.func44 (fun _ => by kernel_rfl) (by kernel_rfl) (by kernel_rfl) ?_
    exact ⟨by kernel_rfl, by kernel_rfl⟩)


theorem readLine_d (p : Nat) (σ : Po) (hσ : σ.Wf) (s : Value) : Does Tryd.prog 46 [pt p] [PoR p σ s] (Ret (.int .u8 (rdI 2 σ)) [PoR p σ s]) := by
  (focus
    refine Xg.spec_of Go.Proofs.Tryd.func46 rfl Go.Proofs.Tryd.ntmps46 fun g F => ?_)
  (focus
    refine Xg.at_seq ?_
    refine Xg.at_region ?_
    refine Xg.ops_op (by kernel_rfl) (Xg.opx_pure ((Value.int IntKind.u8 (0 : Int))) rfl (fun _ => by kernel_rfl) ?_)
    refine Xg.ops_nil ?_
    refine Xg.at_seq ?_
    refine Xg.at_region ?_
    refine Xg.ops_op (by kernel_rfl) (Xg.opx_pure ((Value.pointer (some (Addr.mk p (0 : Nat) none)))) rfl (fun _ => by kernel_rfl) ?_)
    refine Xg.ops_op (by kernel_rfl) (Xg.opx_pure ((Value.pointer (some (Addr.mk p (0 : Nat) none)))) rfl (fun _ => by kernel_rfl) ?_)
    refine Xg.ops_op (by kernel_rfl) (Xg.opx_pure ((Value.pointer (some (Addr.mk p (3 : Nat) none)))) rfl (fun _ => by kernel_rfl) ?_)
    refine Xg.ops_op (by kernel_rfl) (Xg.opx_load (b := p) (off := ((3 : Nat))) 0 (Value.int IntKind.u8 σ.line) rfl (by kernel_rfl) (by kernel_rfl) (by kernel_rfl) ?_)
    refine Xg.ops_op (by kernel_rfl) (Xg.opx_pure (.int .u8 (Xg.bor .u8 (((126 : Int))) (σ.line))) rfl (fun _ => by kernel_rfl) ?_)
    refine Xg.ops_op (by kernel_rfl) (Xg.opx_pure ((Value.int IntKind.u8 (bor IntKind.u8 (126 : Int) σ.line))) rfl (fun _ => by kernel_rfl) ?_)
    refine Xg.ops_nil ?_
    refine Xg.at_ret_ps (v := (Value.int IntKind.u8 (bor IntKind.u8 (126 : Int) σ.line))) [0] [PoR p σ s] Go.Proofs.Tryd.func46 (fun _ => by kernel_rfl) (by kernel_rfl) (by kernel_rfl) ?_
    exact ⟨by kernel_rfl, by kernel_rfl⟩)


theorem readDivider_d (p : Nat) (σ : Po) (hσ : σ.Wf) (s : Value) : Does Tryd.prog 48 [pt p] [PoR p σ s] (Ret (.int .u8 (rdI 3 σ)) [PoR p σ s]) := by
  have hc := hσ.counter
  (focus
    refine Xg.spec_of Go.Proofs.Tryd.func48 rfl Go.Proofs.Tryd.ntmps48 fun g F => ?_)
  (focus
    refine Xg.at_seq ?_
    refine Xg.at_region ?_
    refine Xg.ops_op (by kernel_rfl) (Xg.opx_pure ((Value.int IntKind.u8 (0 : Int))) rfl (fun _ => by kernel_rfl) ?_)
    refine Xg.ops_nil ?_
    refine Xg.at_seq ?_
    refine Xg.at_region ?_
    refine Xg.ops_op (by kernel_rfl) (Xg.opx_pure ((Value.pointer (some (Addr.mk p (0 : Nat) none)))) rfl (fun _ => by kernel_rfl) ?_)
    refine Xg.ops_op (by kernel_rfl) (Xg.opx_pure ((Value.pointer (some (Addr.mk p (0 : Nat) none)))) rfl (fun _ => by kernel_rfl) ?_)
    refine Xg.ops_op (by kernel_rfl) (Xg.opx_pure ((Value.pointer (some (Addr.mk p (4 : Nat) none)))) rfl (fun _ => by kernel_rfl) ?_)
    refine Xg.ops_op (by kernel_rfl) (Xg.opx_load (b := p) (off := ((4 : Nat))) 0 (Value.int IntKind.u16 σ.counter) rfl (by kernel_rfl) (by kernel_rfl) (by kernel_rfl) ?_)
    refine Xg.ops_op (by kernel_rfl) (Xg.opx_int .u16 (Int.fdiv (σ.counter) 256) rfl (fun _ => by kernel_rfl) (Xg.shr_div _ 256 (by decide)) ?_)
    refine Xg.ops_op (by kernel_rfl) (Xg.opx_int .u8 (IntKind.wrap .u8 ((σ.counter / (256 : Int)))) rfl (fun _ => by kernel_rfl) (Xg.wrap_u8_in (by omega)) ?_)
    refine Xg.ops_op (by kernel_rfl) (Xg.opx_pure ((Value.int IntKind.u8 (σ.counter / (256 : Int)))) rfl (fun _ => by kernel_rfl) ?_)
    refine Xg.ops_nil ?_
    refine Xg.at_ret_ps (v := (Value.int IntKind.u8 (σ.counter / (256 : Int)))) [0] [PoR p σ s] Go.Proofs.Tryd.func48 (fun _ => by kernel_rfl) (by kernel_rfl) (by kernel_rfl) ?_)
  exact ⟨by rw [rdI, wrap_u8_in (by omega)], rfl⟩

theorem readTimer_d (p : Nat) (σ : Po) (hσ : σ.Wf) (s : Value) : Does Tryd.prog 50 [pt p] [PoR p σ s] (Ret (.int .u8 (rdI 4 σ)) [PoR p σ s]) := by
  (focus
    refine Xg.spec_of Go.Proofs.Tryd.func50 rfl Go.Proofs.Tryd.ntmps50 fun g F => ?_)
  (focus
    refine Xg.at_seq ?_
    refine Xg.at_region ?_
    refine Xg.ops_op (by kernel_rfl) (Xg.opx_pure ((Value.int IntKind.u8 (0 : Int))) rfl (fun _ => by kernel_rfl) ?_)
    refine Xg.ops_nil ?_
    refine Xg.at_seq ?_
    refine Xg.at_region ?_
    refine Xg.ops_op (by kernel_rfl) (Xg.opx_pure ((Value.pointer (some (Addr.mk p (0 : Nat) none)))) rfl (fun _ => by kernel_rfl) ?_)
    refine Xg.ops_op (by kernel_rfl) (Xg.opx_pure ((Value.pointer (some (Addr.mk p (0 : Nat) none)))) rfl (fun _ => by kernel_rfl) ?_)
    refine Xg.ops_op (by kernel_rfl) (Xg.opx_pure ((Value.pointer (some (Addr.mk p (5 : Nat) none)))) rfl (fun _ => by kernel_rfl) ?_)
    refine Xg.ops_op (by kernel_rfl) (Xg.opx_load (b := p) (off := ((5 : Nat))) 0 (Value.int IntKind.u8 σ.timer) rfl (by kernel_rfl) (by kernel_rfl) (by kernel_rfl) ?_)
    refine Xg.ops_op (by kernel_rfl) (Xg.opx_pure ((Value.int IntKind.u8 σ.timer)) rfl (fun _ => by kernel_rfl) ?_)
    refine Xg.ops_nil ?_
    refine Xg.at_ret_ps (v := (Value.int IntKind.u8 σ.timer)) [0] [PoR p σ s] Go.Proofs.Tryd.func50 (fun _ => by kernel_rfl) (by kernel_rfl) (by kernel_rfl) ?_
    exact ⟨by kernel_rfl, by kernel_rfl⟩)


theorem readAgain_d (p : Nat) (σ : Po) (hσ : σ.Wf) (s : Value) : Does Tryd.prog 52 [pt p] [PoR p σ s] (Ret (.int .u8 (rdI 5 σ)) [PoR p σ s]) := by
  (focus
    refine Xg.spec_of Go.Proofs.Tryd.func52 rfl Go.Proofs.Tryd.ntmps52 fun g F => ?_)
  (focus
    refine Xg.at_seq ?_
    refine Xg.at_region ?_
    refine Xg.ops_op (by kernel_rfl) (Xg.opx_pure ((Value.int IntKind.u8 (0 : Int))) rfl (fun _ => by kernel_rfl) ?_)
    refine Xg.ops_nil ?_
    refine Xg.at_seq ?_
    refine Xg.at_region ?_
    refine Xg.ops_op (by kernel_rfl) (Xg.opx_pure ((Value.pointer (some (Addr.mk p (0 : Nat) none)))) rfl (fun _ => by kernel_rfl) ?_)
    refine Xg.ops_op (by kernel_rfl) (Xg.opx_pure ((Value.pointer (some (Addr.mk p (0 : Nat) none)))) rfl (fun _ => by kernel_rfl) ?_)
    refine Xg.ops_op (by kernel_rfl) (Xg.opx_pure ((Value.pointer (some (Addr.mk p (6 : Nat) none)))) rfl (fun _ => by kernel_rfl) ?_)
    refine Xg.ops_op (by kernel_rfl) (Xg.opx_load (b := p) (off := ((6 : Nat))) 0 (Value.int IntKind.u8 σ.again) rfl (by kernel_rfl) (by kernel_rfl) (by kernel_rfl) ?_)
    refine Xg.ops_op (by kernel_rfl) (Xg.opx_pure ((Value.int IntKind.u8 σ.again)) rfl (fun _ => by kernel_rfl) ?_)
    refine Xg.ops_nil ?_
    refine Xg.at_ret_ps (v := (Value.int IntKind.u8 σ.again)) [0] [PoR p σ s] Go.Proofs.Tryd.func52 (fun _ => by kernel_rfl) (by kernel_rfl) (by kernel_rfl) ?_
    exact ⟨by kernel_rfl, by kernel_rfl⟩)


theorem readControl_d (p : Nat) (σ : Po) (hσ : σ.Wf) (s : Value) : Does Tryd.prog 54 [pt p] [PoR p σ s] (Ret (.int .u8 (rdI 6 σ)) [PoR p σ s]) := by
  (focus
    refine Xg.spec_of Go.Proofs.Tryd.func54 rfl Go.Proofs.Tryd.ntmps54 fun g F => ?_)
  (focus
    refine Xg.at_seq ?_
    refine Xg.at_region ?_
    refine Xg.ops_op (by kernel_rfl) (Xg.opx_pure ((Value.int IntKind.u8 (0 : Int))) rfl (fun _ => by kernel_rfl) ?_)
    refine Xg.ops_nil ?_
    refine Xg.at_seq ?_
    refine Xg.at_region ?_
    refine Xg.ops_op (by kernel_rfl) (Xg.opx_pure ((Value.pointer (some (Addr.mk p (0 : Nat) none)))) rfl (fun _ => by kernel_rfl) ?_)
    refine Xg.ops_op (by kernel_rfl) (Xg.opx_pure ((Value.pointer (some (Addr.mk p (0 : Nat) none)))) rfl (fun _ => by kernel_rfl) ?_)
    refine Xg.ops_op (by kernel_rfl) (Xg.opx_pure ((Value.pointer (some (Addr.mk p (7 : Nat) none)))) rfl (fun _ => by kernel_rfl) ?_)
    refine Xg.ops_op (by kernel_rfl) (Xg.opx_load (b := p) (off := ((7 : Nat))) 0 (Value.int IntKind.u8 σ.control) rfl (by kernel_rfl) (by kernel_rfl) (by kernel_rfl) ?_)
    refine Xg.ops_op (by kernel_rfl) (Xg.opx_pure (.int .u8 (Xg.bor .u8 (((248 : Int))) (σ.control))) rfl (fun _ => by kernel_rfl) ?_)
    refine Xg.ops_op (by kernel_rfl) (Xg.opx_pure ((Value.int IntKind.u8 (bor IntKind.u8 (248 : Int) σ.control))) rfl (fun _ => by kernel_rfl) ?_)
    refine Xg.ops_nil ?_
    refine Xg.at_ret_ps (v := (Value.int IntKind.u8 (bor IntKind.u8 (248 : Int) σ.control))) [0] [PoR p σ s] Go.Proofs.Tryd.func54 (fun _ => by kernel_rfl) (by kernel_rfl) (by kernel_rfl) ?_
    exact ⟨by kernel_rfl, by kernel_rfl⟩)


theorem readRequests_d (p : Nat) (σ : Po) (hσ : σ.Wf) (s : Value) : Does Tryd.prog 56 [pt p] [PoR p σ s] (Ret (.int .u8 (rdI 7 σ)) [PoR p σ s]) := by
  (focus
    refine Xg.spec_of Go.Proofs.Tryd.func56 rfl Go.Proofs.Tryd.ntmps56 fun g F => ?_)
  (focus
    refine Xg.at_seq ?_
    refine Xg.at_region ?_
    refine Xg.ops_op (by kernel_rfl) (Xg.opx_pure ((Value.int IntKind.u8 (0 : Int))) rfl (fun _ => by kernel_rfl) ?_)
    refine Xg.ops_nil ?_
    refine Xg.at_seq ?_
    refine Xg.at_region ?_
    refine Xg.ops_op (by kernel_rfl) (Xg.opx_pure ((Value.pointer (some (Addr.mk p (0 : Nat) none)))) rfl (fun _ => by kernel_rfl) ?_)
    refine Xg.ops_op (by kernel_rfl) (Xg.opx_pure ((Value.pointer (some (Addr.mk p (0 : Nat) none)))) rfl (fun _ => by kernel_rfl) ?_)
    refine Xg.ops_op (by kernel_rfl) (Xg.opx_pure ((Value.pointer (some (Addr.mk p (8 : Nat) none)))) rfl (fun _ => by kernel_rfl) ?_)
    refine Xg.ops_op (by kernel_rfl) (Xg.opx_load (b := p) (off := ((8 : Nat))) 0 (Value.int IntKind.u8 σ.requests) rfl (by kernel_rfl) (by kernel_rfl) (by kernel_rfl) ?_)
    refine Xg.ops_op (by kernel_rfl) (Xg.opx_pure (.int .u8 (Xg.bor .u8 (((224 : Int))) (σ.requests))) rfl (fun _ => by kernel_rfl) ?_)
    refine Xg.ops_op (by kernel_rfl) (Xg.opx_pure ((Value.int IntKind.u8 (bor IntKind.u8 (224 : Int) σ.requests))) rfl (fun _ => by kernel_rfl) ?_)
    refine Xg.ops_nil ?_
    refine Xg.at_ret_ps (v := (Value.int IntKind.u8 (bor IntKind.u8 (224 : Int) σ.requests))) [0] [PoR p σ s] Go.Proofs.Tryd.func56 (fun _ => by kernel_rfl) (by kernel_rfl) (by kernel_rfl) ?_
    exact ⟨by kernel_rfl, by kernel_rfl⟩)


/-- What writing a port does. -/
def wrI : Nat → Po → Int → Po
  | 0, σ, v => pressed σ { σ with rows := band .u8 v 48 }
  | 1, σ, v => { σ with shift := v }
  | 2, σ, v => if band .u8 v 129 = 129 then { σ with line := band .u8 v 129, transfer := 4096, sending := σ.shift } else { σ with line := band .u8 v 129, transfer := 0, sending := 0 }
  | 3, σ, _ => driven (driveB σ) { σ with counter := 0 }
  | 4, σ, v => { σ with timer := v, alarm := 0 }
  | 5, σ, v => { σ with again := v }
  | 6, σ, v => driven (driveB σ) { σ with control := band .u8 v 7 }
  | _, σ, v => { σ with requests := band .u8 v 31 }

theorem writeButtons_d (p : Nat) (σ : Po) (s : Value) (v : Int) : Does Tryd.prog 43 [pt p, .int .u8 v] [PoR p σ s, (Drv te)] (Ret (.tuple #[]) [PoR p (wrI 0 σ v) s, (Drv te)]) := by
  (focus
    refine Xg.spec_of Go.Proofs.Tryd.func43 rfl Go.Proofs.Tryd.ntmps43 fun g F => ?_)
  (focus
    refine Xg.at_seq ?_
    refine Xg.at_region ?_
    refine Xg.ops_op (by kernel_rfl) (Xg.opx_box (v := (Value.pointer (some (Addr.mk p (0 : Nat) none)))) [(Value.pointer (some (Addr.mk p (0 : Nat) none)))] (by kernel_rfl) (by kernel_rfl) fun xb1 => ?_)
    refine Xg.ops_op (by kernel_rfl) (Xg.opx_box (v := (Value.int IntKind.u8 v)) [(Value.int IntKind.u8 v)] (by kernel_rfl) (by kernel_rfl) fun xb2 => ?_)
    refine Xg.ops_nil ?_
    refine Xg.at_region ?_
    refine Xg.ops_op (by kernel_rfl) (Xg.opx_load (b := xb1) (off := ((0 : Nat))) 1 (Value.pointer (some (Addr.mk p (0 : Nat) none))) rfl (by kernel_rfl) (by kernel_rfl) (by kernel_rfl) ?_)
    refine Xg.ops_op (by kernel_rfl) (Xg.opx_pure ((Value.func (Fn.func (77 : Nat)) #[] #[Value.pointer (some (Addr.mk xb2 (0 : Nat) none)), Value.pointer (some (Addr.mk xb1 (0 : Nat) none))])) rfl (fun _ => by kernel_rfl) ?_)
    refine Xg.ops_op (by kernel_rfl) (Xg.opx_call1 [2, 0, 1] (fun _ => by kernel_rfl) (@Go.Proofs.YtncdmccdclhokaaDoor.pressing_wbuttons_d (xb2) (xb1) (p) (σ) (s) (v)) (by kernel_rfl) (by kernel_rfl) ?_)
    refine Xg.ops_nil ?_
    refine Xg.at_end_ps (v := (Value.tuple #[])) [0, 3] [PoR p (pressed σ (Po.mk σ.buttons (band IntKind.u8 v (48 : Int)) σ.shift σ.line σ.counter σ.timer σ.again σ.control σ.requests σ.alarm σ.transfer σ.sending)) s, (Drv te)] Go.Proofs.Tryd.func43 (fun _ => by kernel_rfl) (by kernel_rfl) (by kernel_rfl) ?_
    exact ⟨by kernel_rfl, by kernel_rfl⟩)


theorem writeShift_d (p : Nat) (σ : Po) (s : Value) (v : Int) : Does Tryd.prog 45 [pt p, .int .u8 v] [PoR p σ s, (Drv te)] (Ret (.tuple #[]) [PoR p (wrI 1 σ v) s, (Drv te)]) := by
  (focus
    refine Xg.spec_of Go.Proofs.Tryd.func45 rfl Go.Proofs.Tryd.ntmps45 fun g F => ?_)
  (focus
    refine Xg.at_region ?_
    refine Xg.ops_op (by kernel_rfl) (Xg.opx_pure ((Value.pointer (some (Addr.mk p (0 : Nat) none)))) rfl (fun _ => by kernel_rfl) ?_)
    refine Xg.ops_op (by kernel_rfl) (Xg.opx_pure ((Value.int IntKind.u8 v)) rfl (fun _ => by kernel_rfl) ?_)
    refine Xg.ops_op (by kernel_rfl) (Xg.opx_pure ((Value.pointer (some (Addr.mk p (0 : Nat) none)))) rfl (fun _ => by kernel_rfl) ?_)
    refine Xg.ops_op (by kernel_rfl) (Xg.opx_pure ((Value.pointer (some (Addr.mk p (2 : Nat) none)))) rfl (fun _ => by kernel_rfl) ?_)
    refine Xg.ops_op (by kernel_rfl) (Xg.opx_store1 (off := 2) 0 (Value.int IntKind.u8 v) (by kernel_rfl) rfl (by kernel_rfl) (by kernel_rfl) (by kernel_rfl) (Nat.le_of_ble_eq_true (by kernel_rfl)) ?_)
    refine Xg.ops_nil ?_
    refine Xg.at_end_ps (v := (Value.tuple #[])) [0, 1] [row p (60 : TypeId) [Value.int IntKind.u8 σ.buttons, Value.int IntKind.u8 σ.rows, Value.int IntKind.u8 v, Value.int IntKind.u8 σ.line, Value.int IntKind.u16 σ.counter, Value.int IntKind.u8 σ.timer, Value.int IntKind.u8 σ.again, Value.int IntKind.u8 σ.control, Value.int IntKind.u8 σ.requests, Value.int IntKind.i64 σ.alarm, Value.int IntKind.i64 σ.transfer, Value.int IntKind.u8 σ.sending, s], (Drv te)] Go.Proofs.Tryd.func45 (fun _ => by kernel_rfl) (by kernel_rfl) (by kernel_rfl) ?_
    exact ⟨by kernel_rfl, by kernel_rfl⟩)


theorem writeLine_d (p : Nat) (σ : Po) (s : Value) (v : Int) : Does Tryd.prog 47 [pt p, .int .u8 v] [PoR p σ s, (Drv te)] (Ret (.tuple #[]) [PoR p (wrI 2 σ v) s, (Drv te)]) := by
  (focus
    refine Xg.spec_of Go.Proofs.Tryd.func47 rfl Go.Proofs.Tryd.ntmps47 fun g F => ?_)
  (focus
    refine Xg.at_seq ?_
    refine Xg.at_region ?_
    refine Xg.ops_op (by kernel_rfl) (Xg.opx_pure ((Value.pointer (some (Addr.mk p (0 : Nat) none)))) rfl (fun _ => by kernel_rfl) ?_)
    refine Xg.ops_op (by kernel_rfl) (Xg.opx_pure ((Value.pointer (some (Addr.mk p (0 : Nat) none)))) rfl (fun _ => by kernel_rfl) ?_)
    refine Xg.ops_op (by kernel_rfl) (Xg.opx_pure ((Value.pointer (some (Addr.mk p (0 : Nat) none)))) rfl (fun _ => by kernel_rfl) ?_)
    refine Xg.ops_op (by kernel_rfl) (Xg.opx_pure ((Value.int IntKind.u8 v)) rfl (fun _ => by kernel_rfl) ?_)
    refine Xg.ops_op (by kernel_rfl) (Xg.opx_pure (.int .u8 (Xg.band .u8 (v) (((129 : Int))))) rfl (fun _ => by kernel_rfl) ?_)
    refine Xg.ops_op (by kernel_rfl) (Xg.opx_pure ((Value.pointer (some (Addr.mk p (0 : Nat) none)))) rfl (fun _ => by kernel_rfl) ?_)
    refine Xg.ops_op (by kernel_rfl) (Xg.opx_pure ((Value.pointer (some (Addr.mk p (3 : Nat) none)))) rfl (fun _ => by kernel_rfl) ?_)
    refine Xg.ops_op (by kernel_rfl) (Xg.opx_store1 (off := 3) 0 (Value.int IntKind.u8 (band IntKind.u8 v (129 : Int))) (by kernel_rfl) rfl (by kernel_rfl) (by kernel_rfl) (by kernel_rfl) (Nat.le_of_ble_eq_true (by kernel_rfl)) ?_)
    refine Xg.ops_op (by kernel_rfl) (Xg.opx_pure ((Value.pointer (some (Addr.mk p (0 : Nat) none)))) rfl (fun _ => by kernel_rfl) ?_)
    refine Xg.ops_op (by kernel_rfl) (Xg.opx_pure ((Value.pointer (some (Addr.mk p (10 : Nat) none)))) rfl (fun _ => by kernel_rfl) ?_)
    refine Xg.ops_op (by kernel_rfl) (Xg.opx_store1 (off := 10) 0 (Value.int IntKind.i64 (0 : Int)) (by kernel_rfl) rfl (by kernel_rfl) (by kernel_rfl) (by kernel_rfl) (Nat.le_of_ble_eq_true (by kernel_rfl)) ?_)
    refine Xg.ops_op (by kernel_rfl) (Xg.opx_pure ((Value.pointer (some (Addr.mk p (0 : Nat) none)))) rfl (fun _ => by kernel_rfl) ?_)
    refine Xg.ops_op (by kernel_rfl) (Xg.opx_pure ((Value.pointer (some (Addr.mk p (11 : Nat) none)))) rfl (fun _ => by kernel_rfl) ?_)
    refine Xg.ops_op (by kernel_rfl) (Xg.opx_store1 (off := 11) 0 (Value.int IntKind.u8 (0 : Int)) (by kernel_rfl) rfl (by kernel_rfl) (by kernel_rfl) (by kernel_rfl) (Nat.le_of_ble_eq_true (by kernel_rfl)) ?_)
    refine Xg.ops_nil ?_
    refine Xg.at_seq ?_
    refine Xg.at_region ?_
    refine Xg.ops_op (by kernel_rfl) (Xg.opx_pure ((Value.pointer (some (Addr.mk p (0 : Nat) none)))) rfl (fun _ => by kernel_rfl) ?_)
    refine Xg.ops_op (by kernel_rfl) (Xg.opx_pure ((Value.pointer (some (Addr.mk p (0 : Nat) none)))) rfl (fun _ => by kernel_rfl) ?_)
    refine Xg.ops_op (by kernel_rfl) (Xg.opx_pure ((Value.pointer (some (Addr.mk p (3 : Nat) none)))) rfl (fun _ => by kernel_rfl) ?_)
    refine Xg.ops_op (by kernel_rfl) (Xg.opx_load (b := p) (off := ((3 : Nat))) 0 (Value.int IntKind.u8 (band IntKind.u8 v (129 : Int))) rfl (by kernel_rfl) (by kernel_rfl) (by kernel_rfl) ?_)
    refine Xg.ops_op (by kernel_rfl) (Xg.opx_pure (.bool (decide (((band IntKind.u8 v (129 : Int)) : Int) = ((129 : Int))))) rfl (fun _ => by kernel_rfl) ?_)
    refine Xg.ops_nil ?_
    refine Xg.at_dec (p := (band IntKind.u8 v (129 : Int) = (129 : Int))) (by kernel_rfl) (fun xh1 => ?_) (fun xh1 => ?_)
    refine Xg.at_region ?_
    refine Xg.ops_op (by kernel_rfl) (Xg.opx_pure ((Value.pointer (some (Addr.mk p (0 : Nat) none)))) rfl (fun _ => by kernel_rfl) ?_)
    refine Xg.ops_op (by kernel_rfl) (Xg.opx_pure ((Value.pointer (some (Addr.mk p (0 : Nat) none)))) rfl (fun _ => by kernel_rfl) ?_)
    refine Xg.ops_op (by kernel_rfl) (Xg.opx_pure ((Value.pointer (some (Addr.mk p (0 : Nat) none)))) rfl (fun _ => by kernel_rfl) ?_)
    refine Xg.ops_op (by kernel_rfl) (Xg.opx_pure ((Value.pointer (some (Addr.mk p (0 : Nat) none)))) rfl (fun _ => by kernel_rfl) ?_)
    refine Xg.ops_op (by kernel_rfl) (Xg.opx_pure ((Value.pointer (some (Addr.mk p (2 : Nat) none)))) rfl (fun _ => by kernel_rfl) ?_)
    refine Xg.ops_op (by kernel_rfl) (Xg.opx_load (b := p) (off := ((2 : Nat))) 0 (Value.int IntKind.u8 σ.shift) rfl (by kernel_rfl) (by kernel_rfl) (by kernel_rfl) ?_)
    refine Xg.ops_op (by kernel_rfl) (Xg.opx_pure ((Value.pointer (some (Addr.mk p (0 : Nat) none)))) rfl (fun _ => by kernel_rfl) ?_)
    refine Xg.ops_op (by kernel_rfl) (Xg.opx_pure ((Value.pointer (some (Addr.mk p (10 : Nat) none)))) rfl (fun _ => by kernel_rfl) ?_)
    refine Xg.ops_op (by kernel_rfl) (Xg.opx_store1 (off := 10) 0 (Value.int IntKind.i64 (4096 : Int)) (by kernel_rfl) rfl (by kernel_rfl) (by kernel_rfl) (by kernel_rfl) (Nat.le_of_ble_eq_true (by kernel_rfl)) ?_)
    refine Xg.ops_op (by kernel_rfl) (Xg.opx_pure ((Value.pointer (some (Addr.mk p (0 : Nat) none)))) rfl (fun _ => by kernel_rfl) ?_)
    refine Xg.ops_op (by kernel_rfl) (Xg.opx_pure ((Value.pointer (some (Addr.mk p (11 : Nat) none)))) rfl (fun _ => by kernel_rfl) ?_)
    refine Xg.ops_op (by kernel_rfl) (Xg.opx_store1 (off := 11) 0 (Value.int IntKind.u8 σ.shift) (by kernel_rfl) rfl (by kernel_rfl) (by kernel_rfl) (by kernel_rfl) (Nat.le_of_ble_eq_true (by kernel_rfl)) ?_)
    refine Xg.ops_nil ?_
    refine Xg.at_end_ps (v := (Value.tuple #[])) [0, 1] [row p (60 : TypeId) [Value.int IntKind.u8 σ.buttons, Value.int IntKind.u8 σ.rows, Value.int IntKind.u8 σ.shift, Value.int IntKind.u8 (band IntKind.u8 v (129 : Int)), Value.int IntKind.u16 σ.counter, Value.int IntKind.u8 σ.timer, Value.int IntKind.u8 σ.again, Value.int IntKind.u8 σ.control, Value.int IntKind.u8 σ.requests, Value.int IntKind.i64 σ.alarm, Value.int IntKind.i64 (4096 : Int), Value.int IntKind.u8 σ.shift, s], (Drv te)] Go.Proofs.Tryd.func47 (fun _ => by kernel_rfl) (by kernel_rfl) (by kernel_rfl) ?_
    rotate_left
    refine Xg.at_skip ?_
    refine Xg.at_end_ps (v := (Value.tuple #[])) [0, 1] [row p (60 : TypeId) [Value.int IntKind.u8 σ.buttons, Value.int IntKind.u8 σ.rows, Value.int IntKind.u8 σ.shift, Value.int IntKind.u8 (band IntKind.u8 v (129 : Int)), Value.int IntKind.u16 σ.counter, Value.int IntKind.u8 σ.timer, Value.int IntKind.u8 σ.again, Value.int IntKind.u8 σ.control, Value.int IntKind.u8 σ.requests, Value.int IntKind.i64 σ.alarm, Value.int IntKind.i64 (0 : Int), Value.int IntKind.u8 (0 : Int), s], (Drv te)] Go.Proofs.Tryd.func47 (fun _ => by kernel_rfl) (by kernel_rfl) (by kernel_rfl) ?_
    rotate_left)
  all_goals exact ⟨rfl, by simp [wrI, *]⟩

theorem writeDivider_d (p : Nat) (σ : Po) (s : Value) (v : Int) : Does Tryd.prog 49 [pt p, .int .u8 v] [PoR p σ s, (Drv te)] (Ret (.tuple #[]) [PoR p (wrI 3 σ v) s, (Drv te)]) := by
  (focus
    refine Xg.spec_of Go.Proofs.Tryd.func49 rfl Go.Proofs.Tryd.ntmps49 fun g F => ?_)
  (focus
    refine Xg.at_seq ?_
    refine Xg.at_region ?_
    refine Xg.ops_op (by kernel_rfl) (Xg.opx_box (v := (Value.pointer (some (Addr.mk p (0 : Nat) none)))) [(Value.pointer (some (Addr.mk p (0 : Nat) none)))] (by kernel_rfl) (by kernel_rfl) fun xb1 => ?_)
    refine Xg.ops_nil ?_
    refine Xg.at_region ?_
    refine Xg.ops_op (by kernel_rfl) (Xg.opx_load (b := xb1) (off := ((0 : Nat))) 0 (Value.pointer (some (Addr.mk p (0 : Nat) none))) rfl (by kernel_rfl) (by kernel_rfl) (by kernel_rfl) ?_)
    refine Xg.ops_op (by kernel_rfl) (Xg.opx_pure ((Value.func (Fn.func (78 : Nat)) #[] #[Value.pointer (some (Addr.mk xb1 (0 : Nat) none))])) rfl (fun _ => by kernel_rfl) ?_)
    refine Xg.ops_op (by kernel_rfl) (Xg.opx_call1 [1, 0, 2] (fun _ => by kernel_rfl) (@Go.Proofs.YtncdmccdclhokaaDoor.driving_wdivider_d (te) (xb1) (p) (σ) (s)) (by kernel_rfl) (by kernel_rfl) ?_)
    refine Xg.ops_nil ?_
    refine Xg.at_end_ps (v := (Value.tuple #[])) [0, 2] [PoR p (driven (driveB σ) (Po.mk σ.buttons σ.rows σ.shift σ.line (0 : Int) σ.timer σ.again σ.control σ.requests σ.alarm σ.transfer σ.sending)) s, (Drv te)] Go.Proofs.Tryd.func49 (fun _ => by kernel_rfl) (by kernel_rfl) (by kernel_rfl) ?_
    exact ⟨by kernel_rfl, by kernel_rfl⟩)


theorem writeTimer_d (p : Nat) (σ : Po) (s : Value) (v : Int) : Does Tryd.prog 51 [pt p, .int .u8 v] [PoR p σ s, (Drv te)] (Ret (.tuple #[]) [PoR p (wrI 4 σ v) s, (Drv te)]) := by
  (focus
    refine Xg.spec_of Go.Proofs.Tryd.func51 rfl Go.Proofs.Tryd.ntmps51 fun g F => ?_)
  (focus
    refine Xg.at_region ?_
    refine Xg.ops_op (by kernel_rfl) (Xg.opx_pure ((Value.pointer (some (Addr.mk p (0 : Nat) none)))) rfl (fun _ => by kernel_rfl) ?_)
    refine Xg.ops_op (by kernel_rfl) (Xg.opx_pure ((Value.pointer (some (Addr.mk p (0 : Nat) none)))) rfl (fun _ => by kernel_rfl) ?_)
    refine Xg.ops_op (by kernel_rfl) (Xg.opx_pure ((Value.int IntKind.u8 v)) rfl (fun _ => by kernel_rfl) ?_)
    refine Xg.ops_op (by kernel_rfl) (Xg.opx_pure ((Value.pointer (some (Addr.mk p (0 : Nat) none)))) rfl (fun _ => by kernel_rfl) ?_)
    refine Xg.ops_op (by kernel_rfl) (Xg.opx_pure ((Value.pointer (some (Addr.mk p (5 : Nat) none)))) rfl (fun _ => by kernel_rfl) ?_)
    refine Xg.ops_op (by kernel_rfl) (Xg.opx_store1 (off := 5) 0 (Value.int IntKind.u8 v) (by kernel_rfl) rfl (by kernel_rfl) (by kernel_rfl) (by kernel_rfl) (Nat.le_of_ble_eq_true (by kernel_rfl)) ?_)
    refine Xg.ops_op (by kernel_rfl) (Xg.opx_pure ((Value.pointer (some (Addr.mk p (0 : Nat) none)))) rfl (fun _ => by kernel_rfl) ?_)
    refine Xg.ops_op (by kernel_rfl) (Xg.opx_pure ((Value.pointer (some (Addr.mk p (9 : Nat) none)))) rfl (fun _ => by kernel_rfl) ?_)
    refine Xg.ops_op (by kernel_rfl) (Xg.opx_store1 (off := 9) 0 (Value.int IntKind.i64 (0 : Int)) (by kernel_rfl) rfl (by kernel_rfl) (by kernel_rfl) (by kernel_rfl) (Nat.le_of_ble_eq_true (by kernel_rfl)) ?_)
    refine Xg.ops_nil ?_
    refine Xg.at_end_ps (v := (Value.tuple #[])) [0, 1] [row p (60 : TypeId) [Value.int IntKind.u8 σ.buttons, Value.int IntKind.u8 σ.rows, Value.int IntKind.u8 σ.shift, Value.int IntKind.u8 σ.line, Value.int IntKind.u16 σ.counter, Value.int IntKind.u8 v, Value.int IntKind.u8 σ.again, Value.int IntKind.u8 σ.control, Value.int IntKind.u8 σ.requests, Value.int IntKind.i64 (0 : Int), Value.int IntKind.i64 σ.transfer, Value.int IntKind.u8 σ.sending, s], (Drv te)] Go.Proofs.Tryd.func51 (fun _ => by kernel_rfl) (by kernel_rfl) (by kernel_rfl) ?_
    exact ⟨by kernel_rfl, by kernel_rfl⟩)


theorem writeAgain_d (p : Nat) (σ : Po) (s : Value) (v : Int) : Does Tryd.prog 53 [pt p, .int .u8 v] [PoR p σ s, (Drv te)] (Ret (.tuple #[]) [PoR p (wrI 5 σ v) s, (Drv te)]) := by
  (focus
    refine Xg.spec_of Go.Proofs.Tryd.func53 rfl Go.Proofs.Tryd.ntmps53 fun g F => ?_)
  (focus
    refine Xg.at_region ?_
    refine Xg.ops_op (by kernel_rfl) (Xg.opx_pure ((Value.pointer (some (Addr.mk p (0 : Nat) none)))) rfl (fun _ => by kernel_rfl) ?_)
    refine Xg.ops_op (by kernel_rfl) (Xg.opx_pure ((Value.int IntKind.u8 v)) rfl (fun _ => by kernel_rfl) ?_)
    refine Xg.ops_op (by kernel_rfl) (Xg.opx_pure ((Value.pointer (some (Addr.mk p (0 : Nat) none)))) rfl (fun _ => by kernel_rfl) ?_)
    refine Xg.ops_op (by kernel_rfl) (Xg.opx_pure ((Value.pointer (some (Addr.mk p (6 : Nat) none)))) rfl (fun _ => by kernel_rfl) ?_)
    refine Xg.ops_op (by kernel_rfl) (Xg.opx_store1 (off := 6) 0 (Value.int IntKind.u8 v) (by kernel_rfl) rfl (by kernel_rfl) (by kernel_rfl) (by kernel_rfl) (Nat.le_of_ble_eq_true (by kernel_rfl)) ?_)
    refine Xg.ops_nil ?_
    refine Xg.at_end_ps (v := (Value.tuple #[])) [0, 1] [row p (60 : TypeId) [Value.int IntKind.u8 σ.buttons, Value.int IntKind.u8 σ.rows, Value.int IntKind.u8 σ.shift, Value.int IntKind.u8 σ.line, Value.int IntKind.u16 σ.counter, Value.int IntKind.u8 σ.timer, Value.int IntKind.u8 v, Value.int IntKind.u8 σ.control, Value.int IntKind.u8 σ.requests, Value.int IntKind.i64 σ.alarm, Value.int IntKind.i64 σ.transfer, Value.int IntKind.u8 σ.sending, s], (Drv te)] Go.Proofs.Tryd.func53 (fun _ => by kernel_rfl) (by kernel_rfl) (by kernel_rfl) ?_
    exact ⟨by kernel_rfl, by kernel_rfl⟩)


theorem writeControl_d (p : Nat) (σ : Po) (s : Value) (v : Int) : Does Tryd.prog 55 [pt p, .int .u8 v] [PoR p σ s, (Drv te)] (Ret (.tuple #[]) [PoR p (wrI 6 σ v) s, (Drv te)]) := by
  (focus
    refine Xg.spec_of Go.Proofs.Tryd.func55 rfl Go.Proofs.Tryd.ntmps55 fun g F => ?_)
  (focus
    refine Xg.at_seq ?_
    refine Xg.at_region ?_
    refine Xg.ops_op (by kernel_rfl) (Xg.opx_box (v := (Value.pointer (some (Addr.mk p (0 : Nat) none)))) [(Value.pointer (some (Addr.mk p (0 : Nat) none)))] (by kernel_rfl) (by kernel_rfl) fun xb1 => ?_)
    refine Xg.ops_op (by kernel_rfl) (Xg.opx_box (v := (Value.int IntKind.u8 v)) [(Value.int IntKind.u8 v)] (by kernel_rfl) (by kernel_rfl) fun xb2 => ?_)
    refine Xg.ops_nil ?_
    refine Xg.at_region ?_
    refine Xg.ops_op (by kernel_rfl) (Xg.opx_load (b := xb1) (off := ((0 : Nat))) 1 (Value.pointer (some (Addr.mk p (0 : Nat) none))) rfl (by kernel_rfl) (by kernel_rfl) (by kernel_rfl) ?_)
    refine Xg.ops_op (by kernel_rfl) (Xg.opx_pure ((Value.func (Fn.func (79 : Nat)) #[] #[Value.pointer (some (Addr.mk xb2 (0 : Nat) none)), Value.pointer (some (Addr.mk xb1 (0 : Nat) none))])) rfl (fun _ => by kernel_rfl) ?_)
    refine Xg.ops_op (by kernel_rfl) (Xg.opx_call1 [2, 0, 1, 3] (fun _ => by kernel_rfl) (@Go.Proofs.YtncdmccdclhokaaDoor.driving_wcontrol_d (te) (xb2) (xb1) (p) (σ) (s) (v)) (by kernel_rfl) (by kernel_rfl) ?_)
    refine Xg.ops_nil ?_
    refine Xg.at_end_ps (v := (Value.tuple #[])) [0, 3] [PoR p (driven (driveB σ) (Po.mk σ.buttons σ.rows σ.shift σ.line σ.counter σ.timer σ.again (band IntKind.u8 v (7 : Int)) σ.requests σ.alarm σ.transfer σ.sending)) s, (Drv te)] Go.Proofs.Tryd.func55 (fun _ => by kernel_rfl) (by kernel_rfl) (by kernel_rfl) ?_
    exact ⟨by kernel_rfl, by kernel_rfl⟩)


theorem writeRequests_d (p : Nat) (σ : Po) (s : Value) (v : Int) : Does Tryd.prog 57 [pt p, .int .u8 v] [PoR p σ s, (Drv te)] (Ret (.tuple #[]) [PoR p (wrI 7 σ v) s, (Drv te)]) := by
  (focus
    refine Xg.spec_of Go.Proofs.Tryd.func57 rfl Go.Proofs.Tryd.ntmps57 fun g F => ?_)
  (focus
    refine Xg.at_region ?_
    refine Xg.ops_op (by kernel_rfl) (Xg.opx_pure ((Value.pointer (some (Addr.mk p (0 : Nat) none)))) rfl (fun _ => by kernel_rfl) ?_)
    refine Xg.ops_op (by kernel_rfl) (Xg.opx_pure ((Value.int IntKind.u8 v)) rfl (fun _ => by kernel_rfl) ?_)
    refine Xg.ops_op (by kernel_rfl) (Xg.opx_pure (.int .u8 (Xg.band .u8 (v) (((31 : Int))))) rfl (fun _ => by kernel_rfl) ?_)
    refine Xg.ops_op (by kernel_rfl) (Xg.opx_pure ((Value.pointer (some (Addr.mk p (0 : Nat) none)))) rfl (fun _ => by kernel_rfl) ?_)
    refine Xg.ops_op (by kernel_rfl) (Xg.opx_pure ((Value.pointer (some (Addr.mk p (8 : Nat) none)))) rfl (fun _ => by kernel_rfl) ?_)
    refine Xg.ops_op (by kernel_rfl) (Xg.opx_store1 (off := 8) 0 (Value.int IntKind.u8 (band IntKind.u8 v (31 : Int))) (by kernel_rfl) rfl (by kernel_rfl) (by kernel_rfl) (by kernel_rfl) (Nat.le_of_ble_eq_true (by kernel_rfl)) ?_)
    refine Xg.ops_nil ?_
    refine Xg.at_end_ps (v := (Value.tuple #[])) [0, 1] [row p (60 : TypeId) [Value.int IntKind.u8 σ.buttons, Value.int IntKind.u8 σ.rows, Value.int IntKind.u8 σ.shift, Value.int IntKind.u8 σ.line, Value.int IntKind.u16 σ.counter, Value.int IntKind.u8 σ.timer, Value.int IntKind.u8 σ.again, Value.int IntKind.u8 σ.control, Value.int IntKind.u8 (band IntKind.u8 v (31 : Int)), Value.int IntKind.i64 σ.alarm, Value.int IntKind.i64 σ.transfer, Value.int IntKind.u8 σ.sending, s], (Drv te)] Go.Proofs.Tryd.func57 (fun _ => by kernel_rfl) (by kernel_rfl) (by kernel_rfl) ?_
    exact ⟨by kernel_rfl, by kernel_rfl⟩)



end Go.Proofs.YtncdmccdclhokaaDoor
