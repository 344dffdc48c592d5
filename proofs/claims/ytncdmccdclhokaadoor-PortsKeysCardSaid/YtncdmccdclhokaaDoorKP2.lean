/- The ports package's functions: buttons, timer, clock. -/
import Derived.Test.YtncdmccdclhokaaDoorKP1
namespace Go.Proofs.YtncdmccdclhokaaDoor
open Go.Sl Go.Xg
set_option linter.unusedVariables false
set_option linter.unusedSimpArgs false
set_option maxHeartbeats 4000000
set_option maxRecDepth 100000
variable {te : TypeId}

abbrev pt (p : Nat) : Value := .pointer (some ⟨p, 0, none⟩)
abbrev box (b p : Nat) : HP := row b 23 [pt p]

theorem press1_d (bb bp p : Nat) (σ : Po) (s : Value) (v : Int) (h : 0 ≤ v ∧ v ≤ 255) :
    Does Tryd.prog 33 [pt bb, pt bp] [PoR p σ s, row bb 3 [.int .i64 v], box bp p] (Ret (.tuple #[]) [PoR p { σ with buttons := v } s, row bb 3 [.int .i64 v], box bp p]) := by
  (focus
    refine Xg.spec_of Go.Proofs.Tryd.func33 rfl Go.Proofs.Tryd.ntmps33 fun g F => ?_)
  (focus
    refine Xg.at_region ?_
    refine Xg.ops_op (by kernel_rfl) (Xg.opx_load (b := bp) (off := ((0 : Nat))) 2 (Value.pointer (some (Addr.mk p (0 : Nat) none))) rfl (by kernel_rfl) (by kernel_rfl) (by kernel_rfl) ?_)
    refine Xg.ops_op (by kernel_rfl) (Xg.opx_load (b := bb) (off := ((0 : Nat))) 1 (Value.int IntKind.i64 v) rfl (by kernel_rfl) (by kernel_rfl) (by kernel_rfl) ?_)
    refine Xg.ops_op (by kernel_rfl) (Xg.opx_int .u8 (IntKind.wrap .u8 (v)) rfl (fun _ => by kernel_rfl) (Xg.wrap_u8_in (by omega)) ?_)
    refine Xg.ops_op (by kernel_rfl) (Xg.opx_pure ((Value.pointer (some (Addr.mk p (0 : Nat) none)))) rfl (fun _ => by kernel_rfl) ?_)
    refine Xg.ops_op (by kernel_rfl) (Xg.opx_pure ((Value.pointer (some (Addr.mk p (0 : Nat) none)))) rfl (fun _ => by kernel_rfl) ?_)
    refine Xg.ops_op (by kernel_rfl) (Xg.opx_store1 (off := 0) 0 (Value.int IntKind.u8 v) (by kernel_rfl) rfl (by kernel_rfl) (by kernel_rfl) (by kernel_rfl) (Nat.le_of_ble_eq_true (by kernel_rfl)) ?_)
    refine Xg.ops_nil ?_
    refine Xg.at_end_ps (v := (Value.tuple #[])) [0, 1, 2] [row p (60 : TypeId) [Value.int IntKind.u8 v, Value.int IntKind.u8 σ.rows, Value.int IntKind.u8 σ.shift, Value.int IntKind.u8 σ.line, Value.int IntKind.u16 σ.counter, Value.int IntKind.u8 σ.timer, Value.int IntKind.u8 σ.again, Value.int IntKind.u8 σ.control, Value.int IntKind.u8 σ.requests, Value.int IntKind.i64 σ.alarm, Value.int IntKind.i64 σ.transfer, Value.int IntKind.u8 σ.sending, s], row bb (3 : TypeId) [Value.int IntKind.i64 v], box bp p] Go.Proofs.Tryd.func33 (fun _ => by kernel_rfl) (by kernel_rfl) (by kernel_rfl) ?_
    exact ⟨by kernel_rfl, by kernel_rfl⟩)
theorem wbuttons1_d (bb bp p : Nat) (σ : Po) (s : Value) (v : Int) :
    Does Tryd.prog 77 [pt bb, pt bp] [PoR p σ s, row bb 5 [.int .u8 v], box bp p] (Ret (.tuple #[]) [PoR p { σ with rows := band .u8 v 48 } s, row bb 5 [.int .u8 v], box bp p]) := by
  (focus
    refine Xg.spec_of Go.Proofs.Tryd.func77 rfl Go.Proofs.Tryd.ntmps77 fun g F => ?_)
  (focus
    refine Xg.at_region ?_
    refine Xg.ops_op (by kernel_rfl) (Xg.opx_load (b := bp) (off := ((0 : Nat))) 2 (Value.pointer (some (Addr.mk p (0 : Nat) none))) rfl (by kernel_rfl) (by kernel_rfl) (by kernel_rfl) ?_)
    refine Xg.ops_op (by kernel_rfl) (Xg.opx_load (b := bb) (off := ((0 : Nat))) 1 (Value.int IntKind.u8 v) rfl (by kernel_rfl) (by kernel_rfl) (by kernel_rfl) ?_)
    refine Xg.ops_op (by kernel_rfl) (Xg.opx_pure (.int .u8 (Xg.band .u8 (v) (((48 : Int))))) rfl (fun _ => by kernel_rfl) ?_)
    refine Xg.ops_op (by kernel_rfl) (Xg.opx_pure ((Value.pointer (some (Addr.mk p (0 : Nat) none)))) rfl (fun _ => by kernel_rfl) ?_)
    refine Xg.ops_op (by kernel_rfl) (Xg.opx_pure ((Value.pointer (some (Addr.mk p (1 : Nat) none)))) rfl (fun _ => by kernel_rfl) ?_)
    refine Xg.ops_op (by kernel_rfl) (Xg.opx_store1 (off := 1) 0 (Value.int IntKind.u8 (band IntKind.u8 v (48 : Int))) (by kernel_rfl) rfl (by kernel_rfl) (by kernel_rfl) (by kernel_rfl) (Nat.le_of_ble_eq_true (by kernel_rfl)) ?_)
    refine Xg.ops_nil ?_
    refine Xg.at_end_ps (v := (Value.tuple #[])) [0, 1, 2] [row p (60 : TypeId) [Value.int IntKind.u8 σ.buttons, Value.int IntKind.u8 (band IntKind.u8 v (48 : Int)), Value.int IntKind.u8 σ.shift, Value.int IntKind.u8 σ.line, Value.int IntKind.u16 σ.counter, Value.int IntKind.u8 σ.timer, Value.int IntKind.u8 σ.again, Value.int IntKind.u8 σ.control, Value.int IntKind.u8 σ.requests, Value.int IntKind.i64 σ.alarm, Value.int IntKind.i64 σ.transfer, Value.int IntKind.u8 σ.sending, s], row bb (5 : TypeId) [Value.int IntKind.u8 v], box bp p] Go.Proofs.Tryd.func77 (fun _ => by kernel_rfl) (by kernel_rfl) (by kernel_rfl) ?_
    exact ⟨by kernel_rfl, by kernel_rfl⟩)
theorem clock1_d (bp p : Nat) (σ : Po) (s : Value) :
    Does Tryd.prog 59 [pt bp] [PoR p σ s, box bp p] (Ret (.tuple #[]) [PoR p { σ with counter := (σ.counter + 1) % 65536 } s, box bp p]) := by
  (focus
    refine Xg.spec_of Go.Proofs.Tryd.func59 rfl Go.Proofs.Tryd.ntmps59 fun g F => ?_)
  (focus
    refine Xg.at_region ?_
    refine Xg.ops_op (by kernel_rfl) (Xg.opx_load (b := bp) (off := ((0 : Nat))) 1 (Value.pointer (some (Addr.mk p (0 : Nat) none))) rfl (by kernel_rfl) (by kernel_rfl) (by kernel_rfl) ?_)
    refine Xg.ops_op (by kernel_rfl) (Xg.opx_pure ((Value.pointer (some (Addr.mk p (0 : Nat) none)))) rfl (fun _ => by kernel_rfl) ?_)
    refine Xg.ops_op (by kernel_rfl) (Xg.opx_pure ((Value.pointer (some (Addr.mk p (4 : Nat) none)))) rfl (fun _ => by kernel_rfl) ?_)
    refine Xg.ops_op (by kernel_rfl) (Xg.opx_load (b := p) (off := ((4 : Nat))) 0 (Value.int IntKind.u16 σ.counter) rfl (by kernel_rfl) (by kernel_rfl) (by kernel_rfl) ?_)
    refine Xg.ops_op (by kernel_rfl) (Xg.opx_int .u16 (IntKind.wrap .u16 ((σ.counter + (1 : Int)))) rfl (fun _ => by kernel_rfl) (Xg.wrap_u16_mod _) ?_)
    refine Xg.ops_op (by kernel_rfl) (Xg.opx_pure ((Value.pointer (some (Addr.mk p (0 : Nat) none)))) rfl (fun _ => by kernel_rfl) ?_)
    refine Xg.ops_op (by kernel_rfl) (Xg.opx_pure ((Value.pointer (some (Addr.mk p (4 : Nat) none)))) rfl (fun _ => by kernel_rfl) ?_)
    refine Xg.ops_op (by kernel_rfl) (Xg.opx_store1 (off := 4) 0 (Value.int IntKind.u16 ((σ.counter + (1 : Int)) % (65536 : Int))) (by kernel_rfl) rfl (by kernel_rfl) (by kernel_rfl) (by kernel_rfl) (Nat.le_of_ble_eq_true (by kernel_rfl)) ?_)
    refine Xg.ops_nil ?_
    refine Xg.at_end_ps (v := (Value.tuple #[])) [0, 1] [row p (60 : TypeId) [Value.int IntKind.u8 σ.buttons, Value.int IntKind.u8 σ.rows, Value.int IntKind.u8 σ.shift, Value.int IntKind.u8 σ.line, Value.int IntKind.u16 ((σ.counter + (1 : Int)) % (65536 : Int)), Value.int IntKind.u8 σ.timer, Value.int IntKind.u8 σ.again, Value.int IntKind.u8 σ.control, Value.int IntKind.u8 σ.requests, Value.int IntKind.i64 σ.alarm, Value.int IntKind.i64 σ.transfer, Value.int IntKind.u8 σ.sending, s], box bp p] Go.Proofs.Tryd.func59 (fun _ => by kernel_rfl) (by kernel_rfl) (by kernel_rfl) ?_
    exact ⟨by kernel_rfl, by kernel_rfl⟩)
theorem wdivider1_d (bp p : Nat) (σ : Po) (s : Value) :
    Does Tryd.prog 78 [pt bp] [PoR p σ s, box bp p] (Ret (.tuple #[]) [PoR p { σ with counter := 0 } s, box bp p]) := by
  (focus
    refine Xg.spec_of Go.Proofs.Tryd.func78 rfl Go.Proofs.Tryd.ntmps78 fun g F => ?_)
  (focus
    refine Xg.at_region ?_
    refine Xg.ops_op (by kernel_rfl) (Xg.opx_load (b := bp) (off := ((0 : Nat))) 1 (Value.pointer (some (Addr.mk p (0 : Nat) none))) rfl (by kernel_rfl) (by kernel_rfl) (by kernel_rfl) ?_)
    refine Xg.ops_op (by kernel_rfl) (Xg.opx_pure ((Value.pointer (some (Addr.mk p (0 : Nat) none)))) rfl (fun _ => by kernel_rfl) ?_)
    refine Xg.ops_op (by kernel_rfl) (Xg.opx_pure ((Value.pointer (some (Addr.mk p (4 : Nat) none)))) rfl (fun _ => by kernel_rfl) ?_)
    refine Xg.ops_op (by kernel_rfl) (Xg.opx_store1 (off := 4) 0 (Value.int IntKind.u16 (0 : Int)) (by kernel_rfl) rfl (by kernel_rfl) (by kernel_rfl) (by kernel_rfl) (Nat.le_of_ble_eq_true (by kernel_rfl)) ?_)
    refine Xg.ops_nil ?_
    refine Xg.at_end_ps (v := (Value.tuple #[])) [0, 1] [row p (60 : TypeId) [Value.int IntKind.u8 σ.buttons, Value.int IntKind.u8 σ.rows, Value.int IntKind.u8 σ.shift, Value.int IntKind.u8 σ.line, Value.int IntKind.u16 (0 : Int), Value.int IntKind.u8 σ.timer, Value.int IntKind.u8 σ.again, Value.int IntKind.u8 σ.control, Value.int IntKind.u8 σ.requests, Value.int IntKind.i64 σ.alarm, Value.int IntKind.i64 σ.transfer, Value.int IntKind.u8 σ.sending, s], box bp p] Go.Proofs.Tryd.func78 (fun _ => by kernel_rfl) (by kernel_rfl) (by kernel_rfl) ?_
    exact ⟨by kernel_rfl, by kernel_rfl⟩)
theorem wcontrol1_d (bb bp p : Nat) (σ : Po) (s : Value) (v : Int) :
    Does Tryd.prog 79 [pt bb, pt bp] [PoR p σ s, row bb 5 [.int .u8 v], box bp p] (Ret (.tuple #[]) [PoR p { σ with control := band .u8 v 7 } s, row bb 5 [.int .u8 v], box bp p]) := by
  (focus
    refine Xg.spec_of Go.Proofs.Tryd.func79 rfl Go.Proofs.Tryd.ntmps79 fun g F => ?_)
  (focus
    refine Xg.at_region ?_
    refine Xg.ops_op (by kernel_rfl) (Xg.opx_load (b := bp) (off := ((0 : Nat))) 2 (Value.pointer (some (Addr.mk p (0 : Nat) none))) rfl (by kernel_rfl) (by kernel_rfl) (by kernel_rfl) ?_)
    refine Xg.ops_op (by kernel_rfl) (Xg.opx_load (b := bb) (off := ((0 : Nat))) 1 (Value.int IntKind.u8 v) rfl (by kernel_rfl) (by kernel_rfl) (by kernel_rfl) ?_)
    refine Xg.ops_op (by kernel_rfl) (Xg.opx_pure (.int .u8 (Xg.band .u8 (v) (((7 : Int))))) rfl (fun _ => by kernel_rfl) ?_)
    refine Xg.ops_op (by kernel_rfl) (Xg.opx_pure ((Value.pointer (some (Addr.mk p (0 : Nat) none)))) rfl (fun _ => by kernel_rfl) ?_)
    refine Xg.ops_op (by kernel_rfl) (Xg.opx_pure ((Value.pointer (some (Addr.mk p (7 : Nat) none)))) rfl (fun _ => by kernel_rfl) ?_)
    refine Xg.ops_op (by kernel_rfl) (Xg.opx_store1 (off := 7) 0 (Value.int IntKind.u8 (band IntKind.u8 v (7 : Int))) (by kernel_rfl) rfl (by kernel_rfl) (by kernel_rfl) (by kernel_rfl) (Nat.le_of_ble_eq_true (by kernel_rfl)) ?_)
    refine Xg.ops_nil ?_
    refine Xg.at_end_ps (v := (Value.tuple #[])) [0, 1, 2] [row p (60 : TypeId) [Value.int IntKind.u8 σ.buttons, Value.int IntKind.u8 σ.rows, Value.int IntKind.u8 σ.shift, Value.int IntKind.u8 σ.line, Value.int IntKind.u16 σ.counter, Value.int IntKind.u8 σ.timer, Value.int IntKind.u8 σ.again, Value.int IntKind.u8 (band IntKind.u8 v (7 : Int)), Value.int IntKind.u8 σ.requests, Value.int IntKind.i64 σ.alarm, Value.int IntKind.i64 σ.transfer, Value.int IntKind.u8 σ.sending, s], row bb (5 : TypeId) [Value.int IntKind.u8 v], box bp p] Go.Proofs.Tryd.func79 (fun _ => by kernel_rfl) (by kernel_rfl) (by kernel_rfl) ?_
    exact ⟨by kernel_rfl, by kernel_rfl⟩)

def pressed (σ σ' : Po) : Po := if bclr .u8 (keysI σ.buttons σ.rows) (keysI σ'.buttons σ'.rows) = 0 then σ' else { σ' with requests := askI σ'.requests 4 }

theorem pressing_press_d (bb bp p : Nat) (σ : Po) (s : Value) (v : Int) (h : 0 ≤ v ∧ v ≤ 255) :
    Does Tryd.prog 32 [pt p, .func (.func 33) #[] #[pt bb, pt bp]] [PoR p σ s, row bb 3 [.int .i64 v], box bp p] (Ret (.tuple #[]) [PoR p (pressed σ { σ with buttons := v }) s, row bb 3 [.int .i64 v], box bp p]) := by
  (focus
    refine Xg.spec_of Go.Proofs.Tryd.func32 rfl Go.Proofs.Tryd.ntmps32 fun g F => ?_)
  (focus
    refine Xg.at_seq ?_
    refine Xg.at_region ?_
    refine Xg.ops_op (by kernel_rfl) (Xg.opx_pure ((Value.pointer (some (Addr.mk p (0 : Nat) none)))) rfl (fun _ => by kernel_rfl) ?_)
    refine Xg.ops_op (by kernel_rfl) (Xg.opx_call1 [0] (fun _ => by kernel_rfl) (@Go.Proofs.YtncdmccdclhokaaDoor.keys_d (p) (σ) (s)) (by kernel_rfl) (by kernel_rfl) ?_)
    refine Xg.ops_op (by kernel_rfl) (Xg.opx_pure ((Value.int IntKind.u8 (keysI σ.buttons σ.rows))) rfl (fun _ => by kernel_rfl) ?_)
    refine Xg.ops_nil ?_
    refine Xg.at_seq ?_
    refine Xg.at_region ?_
    refine Xg.ops_op (by kernel_rfl) (Xg.opx_pure ((Value.func (Fn.func (33 : Nat)) #[] #[Value.pointer (some (Addr.mk bb (0 : Nat) none)), Value.pointer (some (Addr.mk bp (0 : Nat) none))])) rfl (fun _ => by kernel_rfl) ?_)
    refine Xg.ops_op (by kernel_rfl) (Xg.opx_call1 [0, 1, 2] (fun _ => by kernel_rfl) (@Go.Proofs.YtncdmccdclhokaaDoor.press1_d (bb) (bp) (p) (σ) (s) (v) (by omega)) (by kernel_rfl) (by kernel_rfl) ?_)
    refine Xg.ops_nil ?_
    refine Xg.at_seq ?_
    refine Xg.at_region ?_
    refine Xg.ops_op (by kernel_rfl) (Xg.opx_pure ((Value.int IntKind.u8 (keysI σ.buttons σ.rows))) rfl (fun _ => by kernel_rfl) ?_)
    refine Xg.ops_op (by kernel_rfl) (Xg.opx_pure ((Value.pointer (some (Addr.mk p (0 : Nat) none)))) rfl (fun _ => by kernel_rfl) ?_)
    refine Xg.ops_op (by kernel_rfl) (Xg.opx_call1 [0] (fun _ => by kernel_rfl) (@Go.Proofs.YtncdmccdclhokaaDoor.keys_d (p) ((Po.mk v σ.rows σ.shift σ.line σ.counter σ.timer σ.again σ.control σ.requests σ.alarm σ.transfer σ.sending)) (s)) (by kernel_rfl) (by kernel_rfl) ?_)
    refine Xg.ops_op (by kernel_rfl) (Xg.opx_pure (.int .u8 (Xg.bclr .u8 ((keysI σ.buttons σ.rows)) ((keysI v σ.rows)))) rfl (fun _ => by kernel_rfl) ?_)
    refine Xg.ops_op (by kernel_rfl) (Xg.opx_pure (.bool (!decide (((bclr IntKind.u8 (keysI σ.buttons σ.rows) (keysI v σ.rows)) : Int) = ((0 : Int))))) rfl (fun _ => by kernel_rfl) ?_)
    refine Xg.ops_nil ?_
    refine Xg.at_ndec (p := (bclr IntKind.u8 (keysI σ.buttons σ.rows) (keysI v σ.rows) = (0 : Int))) (by kernel_rfl) (fun xh1 => ?_) (fun xh1 => ?_)
    refine Xg.at_region ?_
    refine Xg.ops_op (by kernel_rfl) (Xg.opx_pure ((Value.pointer (some (Addr.mk p (0 : Nat) none)))) rfl (fun _ => by kernel_rfl) ?_)
    refine Xg.ops_op (by kernel_rfl) (Xg.opx_call1 [0] (fun _ => by kernel_rfl) (@Go.Proofs.YtncdmccdclhokaaDoor.ask_d (p) ((Po.mk v σ.rows σ.shift σ.line σ.counter σ.timer σ.again σ.control σ.requests σ.alarm σ.transfer σ.sending)) (s) (((4 : Int))) (by omega)) (by kernel_rfl) (by kernel_rfl) ?_)
    refine Xg.ops_nil ?_
    refine Xg.at_end_ps (v := (Value.tuple #[])) [0, 1, 2] [PoR p (Po.mk v σ.rows σ.shift σ.line σ.counter σ.timer σ.again σ.control (askI σ.requests (4 : Int)) σ.alarm σ.transfer σ.sending) s, row bb (3 : TypeId) [Value.int IntKind.i64 v], box bp p] Go.Proofs.Tryd.func32 (fun _ => by kernel_rfl) (by kernel_rfl) (by kernel_rfl) ?_
    rotate_left
    refine Xg.at_skip ?_
    refine Xg.at_end_ps (v := (Value.tuple #[])) [0, 1, 2] [PoR p (Po.mk v σ.rows σ.shift σ.line σ.counter σ.timer σ.again σ.control σ.requests σ.alarm σ.transfer σ.sending) s, row bb (3 : TypeId) [Value.int IntKind.i64 v], box bp p] Go.Proofs.Tryd.func32 (fun _ => by kernel_rfl) (by kernel_rfl) (by kernel_rfl) ?_
    rotate_left)
  all_goals exact ⟨rfl, by simp_all [pressed]⟩
theorem pressing_wbuttons_d (bb bp p : Nat) (σ : Po) (s : Value) (v : Int) :
    Does Tryd.prog 32 [pt p, .func (.func 77) #[] #[pt bb, pt bp]] [PoR p σ s, row bb 5 [.int .u8 v], box bp p] (Ret (.tuple #[]) [PoR p (pressed σ { σ with rows := band .u8 v 48 }) s, row bb 5 [.int .u8 v], box bp p]) := by
  (focus
    refine Xg.spec_of Go.Proofs.Tryd.func32 rfl Go.Proofs.Tryd.ntmps32 fun g F => ?_)
  (focus
    refine Xg.at_seq ?_
    refine Xg.at_region ?_
    refine Xg.ops_op (by kernel_rfl) (Xg.opx_pure ((Value.pointer (some (Addr.mk p (0 : Nat) none)))) rfl (fun _ => by kernel_rfl) ?_)
    refine Xg.ops_op (by kernel_rfl) (Xg.opx_call1 [0] (fun _ => by kernel_rfl) (@Go.Proofs.YtncdmccdclhokaaDoor.keys_d (p) (σ) (s)) (by kernel_rfl) (by kernel_rfl) ?_)
    refine Xg.ops_op (by kernel_rfl) (Xg.opx_pure ((Value.int IntKind.u8 (keysI σ.buttons σ.rows))) rfl (fun _ => by kernel_rfl) ?_)
    refine Xg.ops_nil ?_
    refine Xg.at_seq ?_
    refine Xg.at_region ?_
    refine Xg.ops_op (by kernel_rfl) (Xg.opx_pure ((Value.func (Fn.func (77 : Nat)) #[] #[Value.pointer (some (Addr.mk bb (0 : Nat) none)), Value.pointer (some (Addr.mk bp (0 : Nat) none))])) rfl (fun _ => by kernel_rfl) ?_)
    refine Xg.ops_op (by kernel_rfl) (Xg.opx_call1 [0, 1, 2] (fun _ => by kernel_rfl) (@Go.Proofs.YtncdmccdclhokaaDoor.wbuttons1_d (bb) (bp) (p) (σ) (s) (v)) (by kernel_rfl) (by kernel_rfl) ?_)
    refine Xg.ops_nil ?_
    refine Xg.at_seq ?_
    refine Xg.at_region ?_
    refine Xg.ops_op (by kernel_rfl) (Xg.opx_pure ((Value.int IntKind.u8 (keysI σ.buttons σ.rows))) rfl (fun _ => by kernel_rfl) ?_)
    refine Xg.ops_op (by kernel_rfl) (Xg.opx_pure ((Value.pointer (some (Addr.mk p (0 : Nat) none)))) rfl (fun _ => by kernel_rfl) ?_)
    refine Xg.ops_op (by kernel_rfl) (Xg.opx_call1 [0] (fun _ => by kernel_rfl) (@Go.Proofs.YtncdmccdclhokaaDoor.keys_d (p) ((Po.mk σ.buttons (band IntKind.u8 v (48 : Int)) σ.shift σ.line σ.counter σ.timer σ.again σ.control σ.requests σ.alarm σ.transfer σ.sending)) (s)) (by kernel_rfl) (by kernel_rfl) ?_)
    refine Xg.ops_op (by kernel_rfl) (Xg.opx_pure (.int .u8 (Xg.bclr .u8 ((keysI σ.buttons σ.rows)) ((keysI σ.buttons (band IntKind.u8 v (48 : Int)))))) rfl (fun _ => by kernel_rfl) ?_)
    refine Xg.ops_op (by kernel_rfl) (Xg.opx_pure (.bool (!decide (((bclr IntKind.u8 (keysI σ.buttons σ.rows) (keysI σ.buttons (band IntKind.u8 v (48 : Int)))) : Int) = ((0 : Int))))) rfl (fun _ => by kernel_rfl) ?_)
    refine Xg.ops_nil ?_
    refine Xg.at_ndec (p := (bclr IntKind.u8 (keysI σ.buttons σ.rows) (keysI σ.buttons (band IntKind.u8 v (48 : Int))) = (0 : Int))) (by kernel_rfl) (fun xh1 => ?_) (fun xh1 => ?_)
    refine Xg.at_region ?_
    refine Xg.ops_op (by kernel_rfl) (Xg.opx_pure ((Value.pointer (some (Addr.mk p (0 : Nat) none)))) rfl (fun _ => by kernel_rfl) ?_)
    refine Xg.ops_op (by kernel_rfl) (Xg.opx_call1 [0] (fun _ => by kernel_rfl) (@Go.Proofs.YtncdmccdclhokaaDoor.ask_d (p) ((Po.mk σ.buttons (band IntKind.u8 v (48 : Int)) σ.shift σ.line σ.counter σ.timer σ.again σ.control σ.requests σ.alarm σ.transfer σ.sending)) (s) (((4 : Int))) (by omega)) (by kernel_rfl) (by kernel_rfl) ?_)
    refine Xg.ops_nil ?_
    refine Xg.at_end_ps (v := (Value.tuple #[])) [0, 1, 2] [PoR p (Po.mk σ.buttons (band IntKind.u8 v (48 : Int)) σ.shift σ.line σ.counter σ.timer σ.again σ.control (askI σ.requests (4 : Int)) σ.alarm σ.transfer σ.sending) s, row bb (5 : TypeId) [Value.int IntKind.u8 v], box bp p] Go.Proofs.Tryd.func32 (fun _ => by kernel_rfl) (by kernel_rfl) (by kernel_rfl) ?_
    rotate_left
    refine Xg.at_skip ?_
    refine Xg.at_end_ps (v := (Value.tuple #[])) [0, 1, 2] [PoR p (Po.mk σ.buttons (band IntKind.u8 v (48 : Int)) σ.shift σ.line σ.counter σ.timer σ.again σ.control σ.requests σ.alarm σ.transfer σ.sending) s, row bb (5 : TypeId) [Value.int IntKind.u8 v], box bp p] Go.Proofs.Tryd.func32 (fun _ => by kernel_rfl) (by kernel_rfl) (by kernel_rfl) ?_
    rotate_left)
  all_goals exact ⟨rfl, by simp_all [pressed]⟩

def ticked (σ : Po) : Po := if (σ.timer + 1) % 256 = 0 then { σ with timer := (σ.timer + 1) % 256, alarm := 4 } else { σ with timer := (σ.timer + 1) % 256 }
def driven (was : Bool) (σ : Po) : Po := if was = true then (if driveB σ = true then σ else ticked σ) else σ

theorem driving_clock_d (bp p : Nat) (σ : Po) (s : Value) :
    Does Tryd.prog 58 [pt p, .func (.func 59) #[] #[pt bp]] [PoR p σ s, box bp p, (Drv te)] (Ret (.tuple #[]) [PoR p (driven (driveB σ) { σ with counter := (σ.counter + 1) % 65536 }) s, box bp p, (Drv te)]) := by
  (focus
    refine Xg.spec_of Go.Proofs.Tryd.func58 rfl Go.Proofs.Tryd.ntmps58 fun g F => ?_)
  (focus
    refine Xg.at_seq ?_
    refine Xg.at_region ?_
    refine Xg.ops_op (by kernel_rfl) (Xg.opx_pure ((Value.pointer (some (Addr.mk p (0 : Nat) none)))) rfl (fun _ => by kernel_rfl) ?_)
    refine Xg.ops_op (by kernel_rfl) (Xg.opx_call1 [0, 2] (fun _ => by kernel_rfl) (@Go.Proofs.YtncdmccdclhokaaDoor.drive_d (te) (p) (σ) (s)) (by kernel_rfl) (by kernel_rfl) ?_)
    refine Xg.ops_op (by kernel_rfl) (Xg.opx_pure ((Value.bool (driveB σ))) rfl (fun _ => by kernel_rfl) ?_)
    refine Xg.ops_nil ?_
    refine Xg.at_seq ?_
    refine Xg.at_region ?_
    refine Xg.ops_op (by kernel_rfl) (Xg.opx_pure ((Value.func (Fn.func (59 : Nat)) #[] #[Value.pointer (some (Addr.mk bp (0 : Nat) none))])) rfl (fun _ => by kernel_rfl) ?_)
    refine Xg.ops_op (by kernel_rfl) (Xg.opx_call1 [0, 2] (fun _ => by kernel_rfl) (@Go.Proofs.YtncdmccdclhokaaDoor.clock1_d (bp) (p) (σ) (s)) (by kernel_rfl) (by kernel_rfl) ?_)
    refine Xg.ops_nil ?_
    refine Xg.at_seq ?_
    refine Xg.at_region ?_
    refine Xg.ops_op (by kernel_rfl) (Xg.opx_pure ((Value.bool (driveB σ))) rfl (fun _ => by kernel_rfl) ?_)
    refine Xg.ops_op (by kernel_rfl) (Xg.opx_pure ((Value.bool (driveB σ))) rfl (fun _ => by kernel_rfl) ?_)
    refine Xg.ops_flag (j := 10) (c := (driveB σ)) (by kernel_rfl) (fun xh1 => ?_) (fun xh1 => ?_)
    refine Xg.ops_op (by kernel_rfl) (Xg.opx_pure ((Value.pointer (some (Addr.mk p (0 : Nat) none)))) rfl (fun _ => by kernel_rfl) ?_)
    refine Xg.ops_op (by kernel_rfl) (Xg.opx_call1 [0, 2] (fun _ => by kernel_rfl) (@Go.Proofs.YtncdmccdclhokaaDoor.drive_d (te) (p) ((Po.mk σ.buttons σ.rows σ.shift σ.line ((σ.counter + (1 : Int)) % (65536 : Int)) σ.timer σ.again σ.control σ.requests σ.alarm σ.transfer σ.sending)) (s)) (by kernel_rfl) (by kernel_rfl) ?_)
    refine Xg.ops_op (by kernel_rfl) (Xg.opx_pure (.bool (!(driveB (Po.mk σ.buttons σ.rows σ.shift σ.line ((σ.counter + (1 : Int)) % (65536 : Int)) σ.timer σ.again σ.control σ.requests σ.alarm σ.transfer σ.sending)))) rfl (fun _ => by kernel_rfl) ?_)
    refine Xg.ops_op (by kernel_rfl) (Xg.opx_pure ((Value.bool !driveB (Po.mk σ.buttons σ.rows σ.shift σ.line ((σ.counter + (1 : Int)) % (65536 : Int)) σ.timer σ.again σ.control σ.requests σ.alarm σ.transfer σ.sending))) rfl (fun _ => by kernel_rfl) ?_)
    refine Xg.ops_nil ?_
    refine Xg.at_cond (t := (!driveB (Po.mk σ.buttons σ.rows σ.shift σ.line ((σ.counter + (1 : Int)) % (65536 : Int)) σ.timer σ.again σ.control σ.requests σ.alarm σ.transfer σ.sending))) (by kernel_rfl) (fun xh2 => ?_) (fun xh2 => ?_)
    refine Xg.at_seq ?_
    refine Xg.at_region ?_
    refine Xg.ops_op (by kernel_rfl) (Xg.opx_pure ((Value.pointer (some (Addr.mk p (0 : Nat) none)))) rfl (fun _ => by kernel_rfl) ?_)
    refine Xg.ops_op (by kernel_rfl) (Xg.opx_pure ((Value.pointer (some (Addr.mk p (0 : Nat) none)))) rfl (fun _ => by kernel_rfl) ?_)
    refine Xg.ops_op (by kernel_rfl) (Xg.opx_pure ((Value.pointer (some (Addr.mk p (5 : Nat) none)))) rfl (fun _ => by kernel_rfl) ?_)
    refine Xg.ops_op (by kernel_rfl) (Xg.opx_load (b := p) (off := ((5 : Nat))) 0 (Value.int IntKind.u8 σ.timer) rfl (by kernel_rfl) (by kernel_rfl) (by kernel_rfl) ?_)
    refine Xg.ops_op (by kernel_rfl) (Xg.opx_int .u8 (IntKind.wrap .u8 ((σ.timer + (1 : Int)))) rfl (fun _ => by kernel_rfl) (Xg.wrap_u8_mod _) ?_)
    refine Xg.ops_op (by kernel_rfl) (Xg.opx_pure ((Value.pointer (some (Addr.mk p (0 : Nat) none)))) rfl (fun _ => by kernel_rfl) ?_)
    refine Xg.ops_op (by kernel_rfl) (Xg.opx_pure ((Value.pointer (some (Addr.mk p (5 : Nat) none)))) rfl (fun _ => by kernel_rfl) ?_)
    refine Xg.ops_op (by kernel_rfl) (Xg.opx_store1 (off := 5) 0 (Value.int IntKind.u8 ((σ.timer + (1 : Int)) % (256 : Int))) (by kernel_rfl) rfl (by kernel_rfl) (by kernel_rfl) (by kernel_rfl) (Nat.le_of_ble_eq_true (by kernel_rfl)) ?_)
    refine Xg.ops_nil ?_
    refine Xg.at_seq ?_
    refine Xg.at_region ?_
    refine Xg.ops_op (by kernel_rfl) (Xg.opx_pure ((Value.pointer (some (Addr.mk p (0 : Nat) none)))) rfl (fun _ => by kernel_rfl) ?_)
    refine Xg.ops_op (by kernel_rfl) (Xg.opx_pure ((Value.pointer (some (Addr.mk p (0 : Nat) none)))) rfl (fun _ => by kernel_rfl) ?_)
    refine Xg.ops_op (by kernel_rfl) (Xg.opx_pure ((Value.pointer (some (Addr.mk p (5 : Nat) none)))) rfl (fun _ => by kernel_rfl) ?_)
    refine Xg.ops_op (by kernel_rfl) (Xg.opx_load (b := p) (off := ((5 : Nat))) 0 (Value.int IntKind.u8 ((σ.timer + (1 : Int)) % (256 : Int))) rfl (by kernel_rfl) (by kernel_rfl) (by kernel_rfl) ?_)
    refine Xg.ops_op (by kernel_rfl) (Xg.opx_pure (.bool (decide ((((σ.timer + (1 : Int)) % (256 : Int)) : Int) = ((0 : Int))))) rfl (fun _ => by kernel_rfl) ?_)
    refine Xg.ops_nil ?_
    refine Xg.at_dec (p := ((σ.timer + (1 : Int)) % (256 : Int) = (0 : Int))) (by kernel_rfl) (fun xh3 => ?_) (fun xh3 => ?_)
    refine Xg.at_region ?_
    refine Xg.ops_op (by kernel_rfl) (Xg.opx_pure ((Value.pointer (some (Addr.mk p (0 : Nat) none)))) rfl (fun _ => by kernel_rfl) ?_)
    refine Xg.ops_op (by kernel_rfl) (Xg.opx_pure ((Value.pointer (some (Addr.mk p (0 : Nat) none)))) rfl (fun _ => by kernel_rfl) ?_)
    refine Xg.ops_op (by kernel_rfl) (Xg.opx_pure ((Value.pointer (some (Addr.mk p (9 : Nat) none)))) rfl (fun _ => by kernel_rfl) ?_)
    refine Xg.ops_op (by kernel_rfl) (Xg.opx_store1 (off := 9) 0 (Value.int IntKind.i64 (4 : Int)) (by kernel_rfl) rfl (by kernel_rfl) (by kernel_rfl) (by kernel_rfl) (Nat.le_of_ble_eq_true (by kernel_rfl)) ?_)
    refine Xg.ops_nil ?_
    refine Xg.at_end_ps (v := (Value.tuple #[])) [0, 2, 1] [row p (60 : TypeId) [Value.int IntKind.u8 σ.buttons, Value.int IntKind.u8 σ.rows, Value.int IntKind.u8 σ.shift, Value.int IntKind.u8 σ.line, Value.int IntKind.u16 ((σ.counter + (1 : Int)) % (65536 : Int)), Value.int IntKind.u8 ((σ.timer + (1 : Int)) % (256 : Int)), Value.int IntKind.u8 σ.again, Value.int IntKind.u8 σ.control, Value.int IntKind.u8 σ.requests, Value.int IntKind.i64 (4 : Int), Value.int IntKind.i64 σ.transfer, Value.int IntKind.u8 σ.sending, s], box bp p, (Drv te)] Go.Proofs.Tryd.func58 (fun _ => by kernel_rfl) (by kernel_rfl) (by kernel_rfl) ?_
    rotate_left
    refine Xg.at_skip ?_
    refine Xg.at_end_ps (v := (Value.tuple #[])) [0, 2, 1] [row p (60 : TypeId) [Value.int IntKind.u8 σ.buttons, Value.int IntKind.u8 σ.rows, Value.int IntKind.u8 σ.shift, Value.int IntKind.u8 σ.line, Value.int IntKind.u16 ((σ.counter + (1 : Int)) % (65536 : Int)), Value.int IntKind.u8 ((σ.timer + (1 : Int)) % (256 : Int)), Value.int IntKind.u8 σ.again, Value.int IntKind.u8 σ.control, Value.int IntKind.u8 σ.requests, Value.int IntKind.i64 σ.alarm, Value.int IntKind.i64 σ.transfer, Value.int IntKind.u8 σ.sending, s], box bp p, (Drv te)] Go.Proofs.Tryd.func58 (fun _ => by kernel_rfl) (by kernel_rfl) (by kernel_rfl) ?_
    rotate_left
    refine Xg.at_skip ?_
    refine Xg.at_end_ps (v := (Value.tuple #[])) [0, 2, 1] [PoR p (Po.mk σ.buttons σ.rows σ.shift σ.line ((σ.counter + (1 : Int)) % (65536 : Int)) σ.timer σ.again σ.control σ.requests σ.alarm σ.transfer σ.sending) s, box bp p, (Drv te)] Go.Proofs.Tryd.func58 (fun _ => by kernel_rfl) (by kernel_rfl) (by kernel_rfl) ?_
    rotate_left
    refine Xg.ops_skip (by kernel_rfl) ?_
    refine Xg.ops_skip (by kernel_rfl) ?_
    refine Xg.ops_skip (by kernel_rfl) ?_
    refine Xg.ops_op (by kernel_rfl) (Xg.opx_pure ((Value.bool false)) rfl (fun _ => by kernel_rfl) ?_)
    refine Xg.ops_nil ?_
    refine Xg.at_false (t := false) (by kernel_rfl) rfl ?_
    refine Xg.at_skip ?_
    refine Xg.at_end_ps (v := (Value.tuple #[])) [0, 1, 2] [PoR p (Po.mk σ.buttons σ.rows σ.shift σ.line ((σ.counter + (1 : Int)) % (65536 : Int)) σ.timer σ.again σ.control σ.requests σ.alarm σ.transfer σ.sending) s, box bp p, (Drv te)] Go.Proofs.Tryd.func58 (fun _ => by kernel_rfl) (by kernel_rfl) (by kernel_rfl) ?_
    rotate_left)
  all_goals exact ⟨rfl, by simp_all [driven, ticked]⟩
theorem driving_wdivider_d (bp p : Nat) (σ : Po) (s : Value) :
    Does Tryd.prog 58 [pt p, .func (.func 78) #[] #[pt bp]] [PoR p σ s, box bp p, (Drv te)] (Ret (.tuple #[]) [PoR p (driven (driveB σ) { σ with counter := 0 }) s, box bp p, (Drv te)]) := by
  (focus
    refine Xg.spec_of Go.Proofs.Tryd.func58 rfl Go.Proofs.Tryd.ntmps58 fun g F => ?_)
  (focus
    refine Xg.at_seq ?_
    refine Xg.at_region ?_
    refine Xg.ops_op (by kernel_rfl) (Xg.opx_pure ((Value.pointer (some (Addr.mk p (0 : Nat) none)))) rfl (fun _ => by kernel_rfl) ?_)
    refine Xg.ops_op (by kernel_rfl) (Xg.opx_call1 [0, 2] (fun _ => by kernel_rfl) (@Go.Proofs.YtncdmccdclhokaaDoor.drive_d (te) (p) (σ) (s)) (by kernel_rfl) (by kernel_rfl) ?_)
    refine Xg.ops_op (by kernel_rfl) (Xg.opx_pure ((Value.bool (driveB σ))) rfl (fun _ => by kernel_rfl) ?_)
    refine Xg.ops_nil ?_
    refine Xg.at_seq ?_
    refine Xg.at_region ?_
    refine Xg.ops_op (by kernel_rfl) (Xg.opx_pure ((Value.func (Fn.func (78 : Nat)) #[] #[Value.pointer (some (Addr.mk bp (0 : Nat) none))])) rfl (fun _ => by kernel_rfl) ?_)
    refine Xg.ops_op (by kernel_rfl) (Xg.opx_call1 [0, 2] (fun _ => by kernel_rfl) (@Go.Proofs.YtncdmccdclhokaaDoor.wdivider1_d (bp) (p) (σ) (s)) (by kernel_rfl) (by kernel_rfl) ?_)
    refine Xg.ops_nil ?_
    refine Xg.at_seq ?_
    refine Xg.at_region ?_
    refine Xg.ops_op (by kernel_rfl) (Xg.opx_pure ((Value.bool (driveB σ))) rfl (fun _ => by kernel_rfl) ?_)
    refine Xg.ops_op (by kernel_rfl) (Xg.opx_pure ((Value.bool (driveB σ))) rfl (fun _ => by kernel_rfl) ?_)
    refine Xg.ops_flag (j := 10) (c := (driveB σ)) (by kernel_rfl) (fun xh1 => ?_) (fun xh1 => ?_)
    refine Xg.ops_op (by kernel_rfl) (Xg.opx_pure ((Value.pointer (some (Addr.mk p (0 : Nat) none)))) rfl (fun _ => by kernel_rfl) ?_)
    refine Xg.ops_op (by kernel_rfl) (Xg.opx_call1 [0, 2] (fun _ => by kernel_rfl) (@Go.Proofs.YtncdmccdclhokaaDoor.drive_d (te) (p) ((Po.mk σ.buttons σ.rows σ.shift σ.line (0 : Int) σ.timer σ.again σ.control σ.requests σ.alarm σ.transfer σ.sending)) (s)) (by kernel_rfl) (by kernel_rfl) ?_)
    refine Xg.ops_op (by kernel_rfl) (Xg.opx_pure (.bool (!(driveB (Po.mk σ.buttons σ.rows σ.shift σ.line (0 : Int) σ.timer σ.again σ.control σ.requests σ.alarm σ.transfer σ.sending)))) rfl (fun _ => by kernel_rfl) ?_)
    refine Xg.ops_op (by kernel_rfl) (Xg.opx_pure ((Value.bool !driveB (Po.mk σ.buttons σ.rows σ.shift σ.line (0 : Int) σ.timer σ.again σ.control σ.requests σ.alarm σ.transfer σ.sending))) rfl (fun _ => by kernel_rfl) ?_)
    refine Xg.ops_nil ?_
    refine Xg.at_cond (t := (!driveB (Po.mk σ.buttons σ.rows σ.shift σ.line (0 : Int) σ.timer σ.again σ.control σ.requests σ.alarm σ.transfer σ.sending))) (by kernel_rfl) (fun xh2 => ?_) (fun xh2 => ?_)
    refine Xg.at_seq ?_
    refine Xg.at_region ?_
    refine Xg.ops_op (by kernel_rfl) (Xg.opx_pure ((Value.pointer (some (Addr.mk p (0 : Nat) none)))) rfl (fun _ => by kernel_rfl) ?_)
    refine Xg.ops_op (by kernel_rfl) (Xg.opx_pure ((Value.pointer (some (Addr.mk p (0 : Nat) none)))) rfl (fun _ => by kernel_rfl) ?_)
    refine Xg.ops_op (by kernel_rfl) (Xg.opx_pure ((Value.pointer (some (Addr.mk p (5 : Nat) none)))) rfl (fun _ => by kernel_rfl) ?_)
    refine Xg.ops_op (by kernel_rfl) (Xg.opx_load (b := p) (off := ((5 : Nat))) 0 (Value.int IntKind.u8 σ.timer) rfl (by kernel_rfl) (by kernel_rfl) (by kernel_rfl) ?_)
    refine Xg.ops_op (by kernel_rfl) (Xg.opx_int .u8 (IntKind.wrap .u8 ((σ.timer + (1 : Int)))) rfl (fun _ => by kernel_rfl) (Xg.wrap_u8_mod _) ?_)
    refine Xg.ops_op (by kernel_rfl) (Xg.opx_pure ((Value.pointer (some (Addr.mk p (0 : Nat) none)))) rfl (fun _ => by kernel_rfl) ?_)
    refine Xg.ops_op (by kernel_rfl) (Xg.opx_pure ((Value.pointer (some (Addr.mk p (5 : Nat) none)))) rfl (fun _ => by kernel_rfl) ?_)
    refine Xg.ops_op (by kernel_rfl) (Xg.opx_store1 (off := 5) 0 (Value.int IntKind.u8 ((σ.timer + (1 : Int)) % (256 : Int))) (by kernel_rfl) rfl (by kernel_rfl) (by kernel_rfl) (by kernel_rfl) (Nat.le_of_ble_eq_true (by kernel_rfl)) ?_)
    refine Xg.ops_nil ?_
    refine Xg.at_seq ?_
    refine Xg.at_region ?_
    refine Xg.ops_op (by kernel_rfl) (Xg.opx_pure ((Value.pointer (some (Addr.mk p (0 : Nat) none)))) rfl (fun _ => by kernel_rfl) ?_)
    refine Xg.ops_op (by kernel_rfl) (Xg.opx_pure ((Value.pointer (some (Addr.mk p (0 : Nat) none)))) rfl (fun _ => by kernel_rfl) ?_)
    refine Xg.ops_op (by kernel_rfl) (Xg.opx_pure ((Value.pointer (some (Addr.mk p (5 : Nat) none)))) rfl (fun _ => by kernel_rfl) ?_)
    refine Xg.ops_op (by kernel_rfl) (Xg.opx_load (b := p) (off := ((5 : Nat))) 0 (Value.int IntKind.u8 ((σ.timer + (1 : Int)) % (256 : Int))) rfl (by kernel_rfl) (by kernel_rfl) (by kernel_rfl) ?_)
    refine Xg.ops_op (by kernel_rfl) (Xg.opx_pure (.bool (decide ((((σ.timer + (1 : Int)) % (256 : Int)) : Int) = ((0 : Int))))) rfl (fun _ => by kernel_rfl) ?_)
    refine Xg.ops_nil ?_
    refine Xg.at_dec (p := ((σ.timer + (1 : Int)) % (256 : Int) = (0 : Int))) (by kernel_rfl) (fun xh3 => ?_) (fun xh3 => ?_)
    refine Xg.at_region ?_
    refine Xg.ops_op (by kernel_rfl) (Xg.opx_pure ((Value.pointer (some (Addr.mk p (0 : Nat) none)))) rfl (fun _ => by kernel_rfl) ?_)
    refine Xg.ops_op (by kernel_rfl) (Xg.opx_pure ((Value.pointer (some (Addr.mk p (0 : Nat) none)))) rfl (fun _ => by kernel_rfl) ?_)
    refine Xg.ops_op (by kernel_rfl) (Xg.opx_pure ((Value.pointer (some (Addr.mk p (9 : Nat) none)))) rfl (fun _ => by kernel_rfl) ?_)
    refine Xg.ops_op (by kernel_rfl) (Xg.opx_store1 (off := 9) 0 (Value.int IntKind.i64 (4 : Int)) (by kernel_rfl) rfl (by kernel_rfl) (by kernel_rfl) (by kernel_rfl) (Nat.le_of_ble_eq_true (by kernel_rfl)) ?_)
    refine Xg.ops_nil ?_
    refine Xg.at_end_ps (v := (Value.tuple #[])) [0, 2, 1] [row p (60 : TypeId) [Value.int IntKind.u8 σ.buttons, Value.int IntKind.u8 σ.rows, Value.int IntKind.u8 σ.shift, Value.int IntKind.u8 σ.line, Value.int IntKind.u16 (0 : Int), Value.int IntKind.u8 ((σ.timer + (1 : Int)) % (256 : Int)), Value.int IntKind.u8 σ.again, Value.int IntKind.u8 σ.control, Value.int IntKind.u8 σ.requests, Value.int IntKind.i64 (4 : Int), Value.int IntKind.i64 σ.transfer, Value.int IntKind.u8 σ.sending, s], box bp p, (Drv te)] Go.Proofs.Tryd.func58 (fun _ => by kernel_rfl) (by kernel_rfl) (by kernel_rfl) ?_
    rotate_left
    refine Xg.at_skip ?_
    refine Xg.at_end_ps (v := (Value.tuple #[])) [0, 2, 1] [row p (60 : TypeId) [Value.int IntKind.u8 σ.buttons, Value.int IntKind.u8 σ.rows, Value.int IntKind.u8 σ.shift, Value.int IntKind.u8 σ.line, Value.int IntKind.u16 (0 : Int), Value.int IntKind.u8 ((σ.timer + (1 : Int)) % (256 : Int)), Value.int IntKind.u8 σ.again, Value.int IntKind.u8 σ.control, Value.int IntKind.u8 σ.requests, Value.int IntKind.i64 σ.alarm, Value.int IntKind.i64 σ.transfer, Value.int IntKind.u8 σ.sending, s], box bp p, (Drv te)] Go.Proofs.Tryd.func58 (fun _ => by kernel_rfl) (by kernel_rfl) (by kernel_rfl) ?_
    rotate_left
    refine Xg.at_skip ?_
    refine Xg.at_end_ps (v := (Value.tuple #[])) [0, 2, 1] [PoR p (Po.mk σ.buttons σ.rows σ.shift σ.line (0 : Int) σ.timer σ.again σ.control σ.requests σ.alarm σ.transfer σ.sending) s, box bp p, (Drv te)] Go.Proofs.Tryd.func58 (fun _ => by kernel_rfl) (by kernel_rfl) (by kernel_rfl) ?_
    rotate_left
    refine Xg.ops_skip (by kernel_rfl) ?_
    refine Xg.ops_skip (by kernel_rfl) ?_
    refine Xg.ops_skip (by kernel_rfl) ?_
    refine Xg.ops_op (by kernel_rfl) (Xg.opx_pure ((Value.bool false)) rfl (fun _ => by kernel_rfl) ?_)
    refine Xg.ops_nil ?_
    refine Xg.at_false (t := false) (by kernel_rfl) rfl ?_
    refine Xg.at_skip ?_
    refine Xg.at_end_ps (v := (Value.tuple #[])) [0, 1, 2] [PoR p (Po.mk σ.buttons σ.rows σ.shift σ.line (0 : Int) σ.timer σ.again σ.control σ.requests σ.alarm σ.transfer σ.sending) s, box bp p, (Drv te)] Go.Proofs.Tryd.func58 (fun _ => by kernel_rfl) (by kernel_rfl) (by kernel_rfl) ?_
    rotate_left)
  all_goals exact ⟨rfl, by simp_all [driven, ticked]⟩
theorem driving_wcontrol_d (bb bp p : Nat) (σ : Po) (s : Value) (v : Int) :
    Does Tryd.prog 58 [pt p, .func (.func 79) #[] #[pt bb, pt bp]] [PoR p σ s, row bb 5 [.int .u8 v], box bp p, (Drv te)] (Ret (.tuple #[]) [PoR p (driven (driveB σ) { σ with control := band .u8 v 7 }) s, row bb 5 [.int .u8 v], box bp p, (Drv te)]) := by
  (focus
    refine Xg.spec_of Go.Proofs.Tryd.func58 rfl Go.Proofs.Tryd.ntmps58 fun g F => ?_)
  (focus
    refine Xg.at_seq ?_
    refine Xg.at_region ?_
    refine Xg.ops_op (by kernel_rfl) (Xg.opx_pure ((Value.pointer (some (Addr.mk p (0 : Nat) none)))) rfl (fun _ => by kernel_rfl) ?_)
    refine Xg.ops_op (by kernel_rfl) (Xg.opx_call1 [0, 3] (fun _ => by kernel_rfl) (@Go.Proofs.YtncdmccdclhokaaDoor.drive_d (te) (p) (σ) (s)) (by kernel_rfl) (by kernel_rfl) ?_)
    refine Xg.ops_op (by kernel_rfl) (Xg.opx_pure ((Value.bool (driveB σ))) rfl (fun _ => by kernel_rfl) ?_)
    refine Xg.ops_nil ?_
    refine Xg.at_seq ?_
    refine Xg.at_region ?_
    refine Xg.ops_op (by kernel_rfl) (Xg.opx_pure ((Value.func (Fn.func (79 : Nat)) #[] #[Value.pointer (some (Addr.mk bb (0 : Nat) none)), Value.pointer (some (Addr.mk bp (0 : Nat) none))])) rfl (fun _ => by kernel_rfl) ?_)
    refine Xg.ops_op (by kernel_rfl) (Xg.opx_call1 [0, 2, 3] (fun _ => by kernel_rfl) (@Go.Proofs.YtncdmccdclhokaaDoor.wcontrol1_d (bb) (bp) (p) (σ) (s) (v)) (by kernel_rfl) (by kernel_rfl) ?_)
    refine Xg.ops_nil ?_
    refine Xg.at_seq ?_
    refine Xg.at_region ?_
    refine Xg.ops_op (by kernel_rfl) (Xg.opx_pure ((Value.bool (driveB σ))) rfl (fun _ => by kernel_rfl) ?_)
    refine Xg.ops_op (by kernel_rfl) (Xg.opx_pure ((Value.bool (driveB σ))) rfl (fun _ => by kernel_rfl) ?_)
    refine Xg.ops_flag (j := 10) (c := (driveB σ)) (by kernel_rfl) (fun xh1 => ?_) (fun xh1 => ?_)
    refine Xg.ops_op (by kernel_rfl) (Xg.opx_pure ((Value.pointer (some (Addr.mk p (0 : Nat) none)))) rfl (fun _ => by kernel_rfl) ?_)
    refine Xg.ops_op (by kernel_rfl) (Xg.opx_call1 [0, 3] (fun _ => by kernel_rfl) (@Go.Proofs.YtncdmccdclhokaaDoor.drive_d (te) (p) ((Po.mk σ.buttons σ.rows σ.shift σ.line σ.counter σ.timer σ.again (band IntKind.u8 v (7 : Int)) σ.requests σ.alarm σ.transfer σ.sending)) (s)) (by kernel_rfl) (by kernel_rfl) ?_)
    refine Xg.ops_op (by kernel_rfl) (Xg.opx_pure (.bool (!(driveB (Po.mk σ.buttons σ.rows σ.shift σ.line σ.counter σ.timer σ.again (band IntKind.u8 v (7 : Int)) σ.requests σ.alarm σ.transfer σ.sending)))) rfl (fun _ => by kernel_rfl) ?_)
    refine Xg.ops_op (by kernel_rfl) (Xg.opx_pure ((Value.bool !driveB (Po.mk σ.buttons σ.rows σ.shift σ.line σ.counter σ.timer σ.again (band IntKind.u8 v (7 : Int)) σ.requests σ.alarm σ.transfer σ.sending))) rfl (fun _ => by kernel_rfl) ?_)
    refine Xg.ops_nil ?_
    refine Xg.at_cond (t := (!driveB (Po.mk σ.buttons σ.rows σ.shift σ.line σ.counter σ.timer σ.again (band IntKind.u8 v (7 : Int)) σ.requests σ.alarm σ.transfer σ.sending))) (by kernel_rfl) (fun xh2 => ?_) (fun xh2 => ?_)
    refine Xg.at_seq ?_
    refine Xg.at_region ?_
    refine Xg.ops_op (by kernel_rfl) (Xg.opx_pure ((Value.pointer (some (Addr.mk p (0 : Nat) none)))) rfl (fun _ => by kernel_rfl) ?_)
    refine Xg.ops_op (by kernel_rfl) (Xg.opx_pure ((Value.pointer (some (Addr.mk p (0 : Nat) none)))) rfl (fun _ => by kernel_rfl) ?_)
    refine Xg.ops_op (by kernel_rfl) (Xg.opx_pure ((Value.pointer (some (Addr.mk p (5 : Nat) none)))) rfl (fun _ => by kernel_rfl) ?_)
    refine Xg.ops_op (by kernel_rfl) (Xg.opx_load (b := p) (off := ((5 : Nat))) 0 (Value.int IntKind.u8 σ.timer) rfl (by kernel_rfl) (by kernel_rfl) (by kernel_rfl) ?_)
    refine Xg.ops_op (by kernel_rfl) (Xg.opx_int .u8 (IntKind.wrap .u8 ((σ.timer + (1 : Int)))) rfl (fun _ => by kernel_rfl) (Xg.wrap_u8_mod _) ?_)
    refine Xg.ops_op (by kernel_rfl) (Xg.opx_pure ((Value.pointer (some (Addr.mk p (0 : Nat) none)))) rfl (fun _ => by kernel_rfl) ?_)
    refine Xg.ops_op (by kernel_rfl) (Xg.opx_pure ((Value.pointer (some (Addr.mk p (5 : Nat) none)))) rfl (fun _ => by kernel_rfl) ?_)
    refine Xg.ops_op (by kernel_rfl) (Xg.opx_store1 (off := 5) 0 (Value.int IntKind.u8 ((σ.timer + (1 : Int)) % (256 : Int))) (by kernel_rfl) rfl (by kernel_rfl) (by kernel_rfl) (by kernel_rfl) (Nat.le_of_ble_eq_true (by kernel_rfl)) ?_)
    refine Xg.ops_nil ?_
    refine Xg.at_seq ?_
    refine Xg.at_region ?_
    refine Xg.ops_op (by kernel_rfl) (Xg.opx_pure ((Value.pointer (some (Addr.mk p (0 : Nat) none)))) rfl (fun _ => by kernel_rfl) ?_)
    refine Xg.ops_op (by kernel_rfl) (Xg.opx_pure ((Value.pointer (some (Addr.mk p (0 : Nat) none)))) rfl (fun _ => by kernel_rfl) ?_)
    refine Xg.ops_op (by kernel_rfl) (Xg.opx_pure ((Value.pointer (some (Addr.mk p (5 : Nat) none)))) rfl (fun _ => by kernel_rfl) ?_)
    refine Xg.ops_op (by kernel_rfl) (Xg.opx_load (b := p) (off := ((5 : Nat))) 0 (Value.int IntKind.u8 ((σ.timer + (1 : Int)) % (256 : Int))) rfl (by kernel_rfl) (by kernel_rfl) (by kernel_rfl) ?_)
    refine Xg.ops_op (by kernel_rfl) (Xg.opx_pure (.bool (decide ((((σ.timer + (1 : Int)) % (256 : Int)) : Int) = ((0 : Int))))) rfl (fun _ => by kernel_rfl) ?_)
    refine Xg.ops_nil ?_
    refine Xg.at_dec (p := ((σ.timer + (1 : Int)) % (256 : Int) = (0 : Int))) (by kernel_rfl) (fun xh3 => ?_) (fun xh3 => ?_)
    refine Xg.at_region ?_
    refine Xg.ops_op (by kernel_rfl) (Xg.opx_pure ((Value.pointer (some (Addr.mk p (0 : Nat) none)))) rfl (fun _ => by kernel_rfl) ?_)
    refine Xg.ops_op (by kernel_rfl) (Xg.opx_pure ((Value.pointer (some (Addr.mk p (0 : Nat) none)))) rfl (fun _ => by kernel_rfl) ?_)
    refine Xg.ops_op (by kernel_rfl) (Xg.opx_pure ((Value.pointer (some (Addr.mk p (9 : Nat) none)))) rfl (fun _ => by kernel_rfl) ?_)
    refine Xg.ops_op (by kernel_rfl) (Xg.opx_store1 (off := 9) 0 (Value.int IntKind.i64 (4 : Int)) (by kernel_rfl) rfl (by kernel_rfl) (by kernel_rfl) (by kernel_rfl) (Nat.le_of_ble_eq_true (by kernel_rfl)) ?_)
    refine Xg.ops_nil ?_
    refine Xg.at_end_ps (v := (Value.tuple #[])) [0, 2, 3, 1] [row p (60 : TypeId) [Value.int IntKind.u8 σ.buttons, Value.int IntKind.u8 σ.rows, Value.int IntKind.u8 σ.shift, Value.int IntKind.u8 σ.line, Value.int IntKind.u16 σ.counter, Value.int IntKind.u8 ((σ.timer + (1 : Int)) % (256 : Int)), Value.int IntKind.u8 σ.again, Value.int IntKind.u8 (band IntKind.u8 v (7 : Int)), Value.int IntKind.u8 σ.requests, Value.int IntKind.i64 (4 : Int), Value.int IntKind.i64 σ.transfer, Value.int IntKind.u8 σ.sending, s], row bb (5 : TypeId) [Value.int IntKind.u8 v], box bp p, (Drv te)] Go.Proofs.Tryd.func58 (fun _ => by kernel_rfl) (by kernel_rfl) (by kernel_rfl) ?_
    rotate_left
    refine Xg.at_skip ?_
    refine Xg.at_end_ps (v := (Value.tuple #[])) [0, 2, 3, 1] [row p (60 : TypeId) [Value.int IntKind.u8 σ.buttons, Value.int IntKind.u8 σ.rows, Value.int IntKind.u8 σ.shift, Value.int IntKind.u8 σ.line, Value.int IntKind.u16 σ.counter, Value.int IntKind.u8 ((σ.timer + (1 : Int)) % (256 : Int)), Value.int IntKind.u8 σ.again, Value.int IntKind.u8 (band IntKind.u8 v (7 : Int)), Value.int IntKind.u8 σ.requests, Value.int IntKind.i64 σ.alarm, Value.int IntKind.i64 σ.transfer, Value.int IntKind.u8 σ.sending, s], row bb (5 : TypeId) [Value.int IntKind.u8 v], box bp p, (Drv te)] Go.Proofs.Tryd.func58 (fun _ => by kernel_rfl) (by kernel_rfl) (by kernel_rfl) ?_
    rotate_left
    refine Xg.at_skip ?_
    refine Xg.at_end_ps (v := (Value.tuple #[])) [0, 2, 3, 1] [PoR p (Po.mk σ.buttons σ.rows σ.shift σ.line σ.counter σ.timer σ.again (band IntKind.u8 v (7 : Int)) σ.requests σ.alarm σ.transfer σ.sending) s, row bb (5 : TypeId) [Value.int IntKind.u8 v], box bp p, (Drv te)] Go.Proofs.Tryd.func58 (fun _ => by kernel_rfl) (by kernel_rfl) (by kernel_rfl) ?_
    rotate_left
    refine Xg.ops_skip (by kernel_rfl) ?_
    refine Xg.ops_skip (by kernel_rfl) ?_
    refine Xg.ops_skip (by kernel_rfl) ?_
    refine Xg.ops_op (by kernel_rfl) (Xg.opx_pure ((Value.bool false)) rfl (fun _ => by kernel_rfl) ?_)
    refine Xg.ops_nil ?_
    refine Xg.at_false (t := false) (by kernel_rfl) rfl ?_
    refine Xg.at_skip ?_
    refine Xg.at_end_ps (v := (Value.tuple #[])) [0, 1, 2, 3] [PoR p (Po.mk σ.buttons σ.rows σ.shift σ.line σ.counter σ.timer σ.again (band IntKind.u8 v (7 : Int)) σ.requests σ.alarm σ.transfer σ.sending) s, row bb (5 : TypeId) [Value.int IntKind.u8 v], box bp p, (Drv te)] Go.Proofs.Tryd.func58 (fun _ => by kernel_rfl) (by kernel_rfl) (by kernel_rfl) ?_
    rotate_left)
  all_goals exact ⟨rfl, by simp_all [driven, ticked]⟩

theorem press_d (p : Nat) (σ : Po) (s : Value) (v : Int) (h : 0 ≤ v ∧ v ≤ 255) : Does Tryd.prog 20 [pt p, .int .i64 v] [PoR p σ s] (Ret (.int .i64 0) [PoR p (pressed σ { σ with buttons := v }) s]) := by
  (focus
    refine Xg.spec_of Go.Proofs.Tryd.func20 rfl Go.Proofs.Tryd.ntmps20 fun g F => ?_)
  (focus
    refine Xg.at_seq ?_
    refine Xg.at_region ?_
    refine Xg.ops_op (by kernel_rfl) (Xg.opx_box (v := (Value.pointer (some (Addr.mk p (0 : Nat) none)))) [(Value.pointer (some (Addr.mk p (0 : Nat) none)))] (by kernel_rfl) (by kernel_rfl) fun xb1 => ?_)
    refine Xg.ops_op (by kernel_rfl) (Xg.opx_box (v := (Value.int IntKind.i64 v)) [(Value.int IntKind.i64 v)] (by kernel_rfl) (by kernel_rfl) fun xb2 => ?_)
    refine Xg.ops_op (by kernel_rfl) (Xg.opx_pure ((Value.int IntKind.i64 (0 : Int))) rfl (fun _ => by kernel_rfl) ?_)
    refine Xg.ops_nil ?_
    refine Xg.at_seq ?_
    refine Xg.at_seq ?_
    refine Xg.at_region ?_
    refine Xg.ops_op (by kernel_rfl) (Xg.opx_load (b := xb2) (off := ((0 : Nat))) 0 (Value.int IntKind.i64 v) rfl (by kernel_rfl) (by kernel_rfl) (by kernel_rfl) ?_)
    refine Xg.ops_op (by kernel_rfl) (Xg.opx_pure (.bool (decide ((v : Int) < ((0 : Int))))) rfl (fun _ => by kernel_rfl) ?_)
    refine Xg.ops_op (by kernel_rfl) (Xg.opx_pure ((Value.bool (decide (v < (0 : Int))))) rfl (fun _ => by kernel_rfl) ?_)
    refine Xg.ops_flag (j := 7) (c := (decide (v < (0 : Int)))) (by kernel_rfl) (fun xh1 => absurd (of_decide_eq_true xh1) (by omega)) (fun _ => ?_)
    refine Xg.ops_op (by kernel_rfl) (Xg.opx_load (b := xb2) (off := ((0 : Nat))) 0 (Value.int IntKind.i64 v) rfl (by kernel_rfl) (by kernel_rfl) (by kernel_rfl) ?_)
    refine Xg.ops_op (by kernel_rfl) (Xg.opx_pure (.bool (decide ((v : Int) > ((255 : Int))))) rfl (fun _ => by kernel_rfl) ?_)
    refine Xg.ops_op (by kernel_rfl) (Xg.opx_pure ((Value.bool (decide (v > (255 : Int))))) rfl (fun _ => by kernel_rfl) ?_)
    refine Xg.ops_nil ?_
    refine Xg.at_false (t := decide ((v > (255 : Int)))) (by kernel_rfl) (decide_eq_false (by omega)) ?_
    refine Xg.at_skip ?_
    refine Xg.at_seq ?_
    refine Xg.at_region ?_
    refine Xg.ops_op (by kernel_rfl) (Xg.opx_load (b := xb1) (off := ((0 : Nat))) 1 (Value.pointer (some (Addr.mk p (0 : Nat) none))) rfl (by kernel_rfl) (by kernel_rfl) (by kernel_rfl) ?_)
    refine Xg.ops_op (by kernel_rfl) (Xg.opx_pure ((Value.func (Fn.func (33 : Nat)) #[] #[Value.pointer (some (Addr.mk xb2 (0 : Nat) none)), Value.pointer (some (Addr.mk xb1 (0 : Nat) none))])) rfl (fun _ => by kernel_rfl) ?_)
    refine Xg.ops_op (by kernel_rfl) (Xg.opx_call1 [2, 0, 1] (fun _ => by kernel_rfl) (@Go.Proofs.YtncdmccdclhokaaDoor.pressing_press_d (xb2) (xb1) (p) (σ) (s) (v) (by omega)) (by kernel_rfl) (by kernel_rfl) ?_)
    refine Xg.ops_nil ?_
    refine Xg.at_seq ?_
    refine Xg.at_region ?_
    refine Xg.ops_op (by kernel_rfl) (Xg.opx_pure ((Value.int IntKind.i64 (0 : Int))) rfl (fun _ => by kernel_rfl) ?_)
    refine Xg.ops_nil ?_
    refine Xg.at_ret_ps (v := (Value.int IntKind.i64 (0 : Int))) [0] [PoR p (pressed σ (Po.mk v σ.rows σ.shift σ.line σ.counter σ.timer σ.again σ.control σ.requests σ.alarm σ.transfer σ.sending)) s] Go.Proofs.Tryd.func20 (fun _ => by kernel_rfl) (by kernel_rfl) (by kernel_rfl) ?_
    exact ⟨by kernel_rfl, by kernel_rfl⟩)
theorem press_no_d (p : Nat) (σ : Po) (s : Value) (v : Int) (h : v < 0 ∨ 255 < v) : Does Tryd.prog 20 [pt p, .int .i64 v] [PoR p σ s] (Ret (.int .i64 1) [PoR p σ s]) := by
  rcases h with h | h
  · (focus
      refine Xg.spec_of Go.Proofs.Tryd.func20 rfl Go.Proofs.Tryd.ntmps20 fun g F => ?_)
    (focus
      refine Xg.at_seq ?_
      refine Xg.at_region ?_
      refine Xg.ops_op (by kernel_rfl) (Xg.opx_box (v := (Value.pointer (some (Addr.mk p (0 : Nat) none)))) [(Value.pointer (some (Addr.mk p (0 : Nat) none)))] (by kernel_rfl) (by kernel_rfl) fun xb1 => ?_)
      refine Xg.ops_op (by kernel_rfl) (Xg.opx_box (v := (Value.int IntKind.i64 v)) [(Value.int IntKind.i64 v)] (by kernel_rfl) (by kernel_rfl) fun xb2 => ?_)
      refine Xg.ops_op (by kernel_rfl) (Xg.opx_pure ((Value.int IntKind.i64 (0 : Int))) rfl (fun _ => by kernel_rfl) ?_)
      refine Xg.ops_nil ?_
      refine Xg.at_seq ?_
      refine Xg.at_seq ?_
      refine Xg.at_region ?_
      refine Xg.ops_op (by kernel_rfl) (Xg.opx_load (b := xb2) (off := ((0 : Nat))) 0 (Value.int IntKind.i64 v) rfl (by kernel_rfl) (by kernel_rfl) (by kernel_rfl) ?_)
      refine Xg.ops_op (by kernel_rfl) (Xg.opx_pure (.bool (decide ((v : Int) < ((0 : Int))))) rfl (fun _ => by kernel_rfl) ?_)
      refine Xg.ops_op (by kernel_rfl) (Xg.opx_pure ((Value.bool (decide (v < (0 : Int))))) rfl (fun _ => by kernel_rfl) ?_)
      refine Xg.ops_flag (j := 7) (c := (decide (v < (0 : Int)))) (by kernel_rfl) (fun _ => ?_) (fun xh1 => absurd (of_decide_eq_false xh1) (by omega))
      refine Xg.ops_skip (by kernel_rfl) ?_
      refine Xg.ops_skip (by kernel_rfl) ?_
      refine Xg.ops_op (by kernel_rfl) (Xg.opx_pure ((Value.bool true)) rfl (fun _ => by kernel_rfl) ?_)
      refine Xg.ops_nil ?_
      refine Xg.at_true (t := true) (by kernel_rfl) rfl ?_
      refine Xg.at_seq ?_
      refine Xg.at_region ?_
      refine Xg.ops_op (by kernel_rfl) (Xg.opx_pure ((Value.int IntKind.i64 (1 : Int))) rfl (fun _ => by kernel_rfl) ?_)
      refine Xg.ops_nil ?_
      refine Xg.at_ret_ps (v := (Value.int IntKind.i64 (1 : Int))) [2] [PoR p σ s] Go.Proofs.Tryd.func20 (fun _ => by kernel_rfl) (by kernel_rfl) (by kernel_rfl) ?_
      exact ⟨by kernel_rfl, by kernel_rfl⟩)
  · (focus
      refine Xg.spec_of Go.Proofs.Tryd.func20 rfl Go.Proofs.Tryd.ntmps20 fun g F => ?_)
    (focus
      refine Xg.at_seq ?_
      refine Xg.at_region ?_
      refine Xg.ops_op (by kernel_rfl) (Xg.opx_box (v := (Value.pointer (some (Addr.mk p (0 : Nat) none)))) [(Value.pointer (some (Addr.mk p (0 : Nat) none)))] (by kernel_rfl) (by kernel_rfl) fun xb1 => ?_)
      refine Xg.ops_op (by kernel_rfl) (Xg.opx_box (v := (Value.int IntKind.i64 v)) [(Value.int IntKind.i64 v)] (by kernel_rfl) (by kernel_rfl) fun xb2 => ?_)
      refine Xg.ops_op (by kernel_rfl) (Xg.opx_pure ((Value.int IntKind.i64 (0 : Int))) rfl (fun _ => by kernel_rfl) ?_)
      refine Xg.ops_nil ?_
      refine Xg.at_seq ?_
      refine Xg.at_seq ?_
      refine Xg.at_region ?_
      refine Xg.ops_op (by kernel_rfl) (Xg.opx_load (b := xb2) (off := ((0 : Nat))) 0 (Value.int IntKind.i64 v) rfl (by kernel_rfl) (by kernel_rfl) (by kernel_rfl) ?_)
      refine Xg.ops_op (by kernel_rfl) (Xg.opx_pure (.bool (decide ((v : Int) < ((0 : Int))))) rfl (fun _ => by kernel_rfl) ?_)
      refine Xg.ops_op (by kernel_rfl) (Xg.opx_pure ((Value.bool (decide (v < (0 : Int))))) rfl (fun _ => by kernel_rfl) ?_)
      refine Xg.ops_flag (j := 7) (c := (decide (v < (0 : Int)))) (by kernel_rfl) (fun xh1 => absurd (of_decide_eq_true xh1) (by omega)) (fun _ => ?_)
      refine Xg.ops_op (by kernel_rfl) (Xg.opx_load (b := xb2) (off := ((0 : Nat))) 0 (Value.int IntKind.i64 v) rfl (by kernel_rfl) (by kernel_rfl) (by kernel_rfl) ?_)
      refine Xg.ops_op (by kernel_rfl) (Xg.opx_pure (.bool (decide ((v : Int) > ((255 : Int))))) rfl (fun _ => by kernel_rfl) ?_)
      refine Xg.ops_op (by kernel_rfl) (Xg.opx_pure ((Value.bool (decide (v > (255 : Int))))) rfl (fun _ => by kernel_rfl) ?_)
      refine Xg.ops_nil ?_
      refine Xg.at_true (t := decide ((v > (255 : Int)))) (by kernel_rfl) (decide_eq_true (by omega)) ?_
      refine Xg.at_seq ?_
      refine Xg.at_region ?_
      refine Xg.ops_op (by kernel_rfl) (Xg.opx_pure ((Value.int IntKind.i64 (1 : Int))) rfl (fun _ => by kernel_rfl) ?_)
      refine Xg.ops_nil ?_
      refine Xg.at_ret_ps (v := (Value.int IntKind.i64 (1 : Int))) [2] [PoR p σ s] Go.Proofs.Tryd.func20 (fun _ => by kernel_rfl) (by kernel_rfl) (by kernel_rfl) ?_
      exact ⟨by kernel_rfl, by kernel_rfl⟩)

end Go.Proofs.YtncdmccdclhokaaDoor
