/- The ports package's functions. -/
import Derived.Test.YtncdmccdclhokaaDoorProg
import Derived.Test.YtncdmccdclhokaaDoorG8
namespace Go.Proofs.YtncdmccdclhokaaDoor
open Go.Sl Go.Xg
set_option linter.unusedVariables false
set_option linter.unusedSimpArgs false
set_option maxHeartbeats 4000000
set_option maxRecDepth 100000
variable {te : TypeId}

/-- The ports, as the program holds them. -/
structure Po where
  buttons : Int
  rows : Int
  shift : Int
  line : Int
  counter : Int
  timer : Int
  again : Int
  control : Int
  requests : Int
  alarm : Int
  transfer : Int
  sending : Int

abbrev Po.cells (σ : Po) (sent : Value) : List Value :=
  [.int .u8 σ.buttons, .int .u8 σ.rows, .int .u8 σ.shift, .int .u8 σ.line, .int .u16 σ.counter, .int .u8 σ.timer, .int .u8 σ.again, .int .u8 σ.control, .int .u8 σ.requests, .int .i64 σ.alarm, .int .i64 σ.transfer, .int .u8 σ.sending, sent]

abbrev PoR (p : Nat) (σ : Po) (sent : Value) : HP := row p 60 (σ.cells sent)
/-- The table of the drives. -/
abbrev Drv (te : TypeId) : HP := row 0 te [.int .u64 9, .int .u64 3, .int .u64 5, .int .u64 7]

structure Po.Wf (σ : Po) : Prop where
  buttons : 0 ≤ σ.buttons ∧ σ.buttons ≤ 255
  rows : 0 ≤ σ.rows ∧ σ.rows ≤ 255
  shift : 0 ≤ σ.shift ∧ σ.shift ≤ 255
  line : 0 ≤ σ.line ∧ σ.line ≤ 255
  counter : 0 ≤ σ.counter ∧ σ.counter ≤ 65535
  timer : 0 ≤ σ.timer ∧ σ.timer ≤ 255
  again : 0 ≤ σ.again ∧ σ.again ≤ 255
  control : 0 ≤ σ.control ∧ σ.control ≤ 7
  requests : 0 ≤ σ.requests ∧ σ.requests ≤ 31
  alarm : 0 ≤ σ.alarm ∧ σ.alarm ≤ 4
  transfer : 0 ≤ σ.transfer ∧ σ.transfer ≤ 4096
  sending : 0 ≤ σ.sending ∧ σ.sending ≤ 255

theorem requests_d (p : Nat) (σ : Po) (s : Value) (h : 0 ≤ σ.requests ∧ σ.requests ≤ 31) : Does Tryd.prog 18 [.pointer (some ⟨p, 0, none⟩)] [PoR p σ s] (Ret (.int .i64 σ.requests) [PoR p σ s]) := by
  (focus
    refine Xg.spec_of Go.Proofs.Tryd.func18 rfl Go.Proofs.Tryd.ntmps18 fun g F => ?_)
  (focus
    refine Xg.at_seq ?_
    refine Xg.at_region ?_
    refine Xg.ops_op (by kernel_rfl) (Xg.opx_pure ((Value.int IntKind.i64 (0 : Int))) rfl (fun _ => by kernel_rfl) ?_)
    refine Xg.ops_nil ?_
    refine Xg.at_seq ?_
    refine Xg.at_region ?_
    refine Xg.ops_op (by kernel_rfl) (Xg.opx_pure ((Value.pointer (some (Addr.mk p (0 : Nat) none)))) rfl (fun _ => by kernel_rfl) ?_)
    refine Xg.ops_op (by kernel_rfl) (Xg.opx_pure ((Value.pointer (some (Addr.mk p (0 : Nat) none)))) rfl (fun _ => by kernel_rfl) ?_)
    refine Xg.ops_op (by kernel_rfl) (Xg.opx_pure ((Value.pointer (some (Addr.mk p (8 : Nat) none)))) rfl (fun _ => by kernel_rfl) ?_)
    refine Xg.ops_op (by kernel_rfl) (Xg.opx_load (b := p) (off := ((8 : Nat))) 0 (Value.int IntKind.u8 σ.requests) rfl (by kernel_rfl) (by kernel_rfl) (by kernel_rfl) ?_)
    refine Xg.ops_op (by kernel_rfl) (Xg.opx_int .i64 (IntKind.wrap .i64 (σ.requests)) rfl (fun _ => by kernel_rfl) (Xg.wrap_i64_in (by omega)) ?_)
    refine Xg.ops_op (by kernel_rfl) (Xg.opx_pure ((Value.int IntKind.i64 σ.requests)) rfl (fun _ => by kernel_rfl) ?_)
    refine Xg.ops_nil ?_
    refine Xg.at_ret_ps (v := (Value.int IntKind.i64 σ.requests)) [0] [PoR p σ s] Go.Proofs.Tryd.func18 (fun _ => by kernel_rfl) (by kernel_rfl) (by kernel_rfl) ?_
    exact ⟨by kernel_rfl, by kernel_rfl⟩)

def askI (r n : Int) : Int := bor .u8 r (IntKind.wrap .u8 (1 * 2 ^ min n.toNat 8))

theorem ask_d (p : Nat) (σ : Po) (s : Value) (n : Int) (h : 0 ≤ n) : Does Tryd.prog 35 [.pointer (some ⟨p, 0, none⟩), .int .i64 n] [PoR p σ s] (Ret (.tuple #[]) [PoR p { σ with requests := askI σ.requests n } s]) := by
  (focus
    refine Xg.spec_of Go.Proofs.Tryd.func35 rfl Go.Proofs.Tryd.ntmps35 fun g F => ?_)
  (focus
    refine Xg.at_draw [9] [(3, [0, 1, 2, 3, 4, 5], Xg.CellIs (p) (((8 : Nat))) ((Value.int IntKind.u8 σ.requests)))] (by kernel_rfl) ?_
    refine Xg.any_pure ((Value.pointer (some (Addr.mk p (0 : Nat) none)))) 0 (by kernel_rfl) rfl (by kernel_rfl) (by kernel_rfl) (by kernel_rfl) (by kernel_rfl) rfl (fun _ => by kernel_rfl) ?_
    refine Xg.any_pure ((Value.pointer (some (Addr.mk p (0 : Nat) none)))) 1 (by kernel_rfl) rfl (by kernel_rfl) (by kernel_rfl) (by kernel_rfl) (by kernel_rfl) rfl (fun _ => by kernel_rfl) ?_
    refine Xg.any_pure ((Value.pointer (some (Addr.mk p (8 : Nat) none)))) 2 (by kernel_rfl) rfl (by kernel_rfl) (by kernel_rfl) (by kernel_rfl) (by kernel_rfl) rfl (fun _ => by kernel_rfl) ?_
    refine Xg.any_reads (Value.int IntKind.u8 σ.requests) 3 0 (by kernel_rfl) rfl (by kernel_rfl) (by kernel_rfl) (by kernel_rfl) (by kernel_rfl) rfl rfl (by kernel_rfl) (Xg.cell_now (b := p) (off := ((8 : Nat))) 0 rfl (by kernel_rfl)) (fun _ h => Xg.run_load (by kernel_rfl) (by kernel_rfl) h) ?_
    refine Xg.any_pure ((Value.int IntKind.i64 n)) 4 (by kernel_rfl) rfl (by kernel_rfl) (by kernel_rfl) (by kernel_rfl) (by kernel_rfl) rfl (fun _ => by kernel_rfl) ?_
    refine Xg.any_pure (.int .u8 (IntKind.wrap .u8 (((1 : Int)) * 2 ^ min (Int.toNat n) (IntKind.bits .u8)))) 5 (by kernel_rfl) rfl (by kernel_rfl) (by kernel_rfl) (by kernel_rfl) (by kernel_rfl) rfl (fun _ => Xg.run_shl (k1 := .u8) (k2 := .i64) (m := ((1 : Int))) (e := n) (by kernel_rfl) (by kernel_rfl) (by omega)) ?_
    refine Xg.any_pure (.int .u8 (Xg.bor .u8 (σ.requests) ((IntKind.u8.wrap ((1 : Int) * (2 : Int) ^ min n.toNat IntKind.u8.bits))))) 6 (by kernel_rfl) rfl (by kernel_rfl) (by kernel_rfl) (by kernel_rfl) (by kernel_rfl) rfl (fun _ => by kernel_rfl) ?_
    refine Xg.any_pure ((Value.pointer (some (Addr.mk p (0 : Nat) none)))) 7 (by kernel_rfl) rfl (by kernel_rfl) (by kernel_rfl) (by kernel_rfl) (by kernel_rfl) rfl (fun _ => by kernel_rfl) ?_
    refine Xg.any_pure ((Value.pointer (some (Addr.mk p (8 : Nat) none)))) 8 (by kernel_rfl) rfl (by kernel_rfl) (by kernel_rfl) (by kernel_rfl) (by kernel_rfl) rfl (fun _ => by kernel_rfl) ?_
    refine Xg.any_each [9] (by kernel_rfl) rfl ⟨?_, trivial⟩
    refine Xg.comes_act rfl (by kernel_rfl) (by kernel_rfl) (Xg.opx_store1 (off := 8) 0 (Value.int IntKind.u8 (bor IntKind.u8 σ.requests (IntKind.u8.wrap ((1 : Int) * (2 : Int) ^ min n.toNat IntKind.u8.bits)))) (by kernel_rfl) rfl (by kernel_rfl) (by kernel_rfl) (by kernel_rfl) (Nat.le_of_ble_eq_true (by kernel_rfl)) ?_)
    refine Xg.acts (Xg.owes_skip (by kernel_rfl) Xg.owes_nil) ?_
    refine Xg.any_nil (by kernel_rfl) ?_
    refine Xg.at_end_ps (v := (Value.tuple #[])) [0] [row p (60 : TypeId) [Value.int IntKind.u8 σ.buttons, Value.int IntKind.u8 σ.rows, Value.int IntKind.u8 σ.shift, Value.int IntKind.u8 σ.line, Value.int IntKind.u16 σ.counter, Value.int IntKind.u8 σ.timer, Value.int IntKind.u8 σ.again, Value.int IntKind.u8 σ.control, Value.int IntKind.u8 (bor IntKind.u8 σ.requests (IntKind.u8.wrap ((1 : Int) * (2 : Int) ^ min n.toNat IntKind.u8.bits))), Value.int IntKind.i64 σ.alarm, Value.int IntKind.i64 σ.transfer, Value.int IntKind.u8 σ.sending, s]] Go.Proofs.Tryd.func35 (fun _ => by kernel_rfl) (by kernel_rfl) (by kernel_rfl) ?_
    exact ⟨by kernel_rfl, by kernel_rfl⟩)

def keysI (b r : Int) : Int :=
  if band .u8 r 16 = 0 then
    if band .u8 r 32 = 0 then band .u8 (bxor .u8 255 (bor .u8 (bor .u8 0 (band .u8 b 15)) (b / 16))) 15
    else band .u8 (bxor .u8 255 (bor .u8 0 (band .u8 b 15))) 15
  else if band .u8 r 32 = 0 then band .u8 (bxor .u8 255 (bor .u8 0 (b / 16))) 15
    else 15

theorem keys_d (p : Nat) (σ : Po) (s : Value) : Does Tryd.prog 61 [.pointer (some ⟨p, 0, none⟩)] [PoR p σ s] (Ret (.int .u8 (keysI σ.buttons σ.rows)) [PoR p σ s]) := by
  (focus
    refine Xg.spec_of Go.Proofs.Tryd.func61 rfl Go.Proofs.Tryd.ntmps61 fun g F => ?_)
  (focus
    refine Xg.at_seq ?_
    refine Xg.at_region ?_
    refine Xg.ops_op (by kernel_rfl) (Xg.opx_pure ((Value.int IntKind.u8 (0 : Int))) rfl (fun _ => by kernel_rfl) ?_)
    refine Xg.ops_nil ?_
    refine Xg.at_seq ?_
    refine Xg.at_region ?_
    refine Xg.ops_op (by kernel_rfl) (Xg.opx_pure ((Value.int IntKind.u8 (0 : Int))) rfl (fun _ => by kernel_rfl) ?_)
    refine Xg.ops_nil ?_
    refine Xg.at_seq ?_
    refine Xg.at_seq ?_
    refine Xg.at_region ?_
    refine Xg.ops_op (by kernel_rfl) (Xg.opx_pure ((Value.pointer (some (Addr.mk p (0 : Nat) none)))) rfl (fun _ => by kernel_rfl) ?_)
    refine Xg.ops_op (by kernel_rfl) (Xg.opx_pure ((Value.pointer (some (Addr.mk p (0 : Nat) none)))) rfl (fun _ => by kernel_rfl) ?_)
    refine Xg.ops_op (by kernel_rfl) (Xg.opx_pure ((Value.pointer (some (Addr.mk p (1 : Nat) none)))) rfl (fun _ => by kernel_rfl) ?_)
    refine Xg.ops_op (by kernel_rfl) (Xg.opx_load (b := p) (off := ((1 : Nat))) 0 (Value.int IntKind.u8 σ.rows) rfl (by kernel_rfl) (by kernel_rfl) (by kernel_rfl) ?_)
    refine Xg.ops_op (by kernel_rfl) (Xg.opx_pure (.int .u8 (Xg.band .u8 (σ.rows) (((16 : Int))))) rfl (fun _ => by kernel_rfl) ?_)
    refine Xg.ops_op (by kernel_rfl) (Xg.opx_pure (.bool (decide (((band IntKind.u8 σ.rows (16 : Int)) : Int) = ((0 : Int))))) rfl (fun _ => by kernel_rfl) ?_)
    refine Xg.ops_nil ?_
    refine Xg.at_dec (p := (band IntKind.u8 σ.rows (16 : Int) = (0 : Int))) (by kernel_rfl) (fun xh1 => ?_) (fun xh1 => ?_)
    refine Xg.at_region ?_
    refine Xg.ops_op (by kernel_rfl) (Xg.opx_pure ((Value.int IntKind.u8 (0 : Int))) rfl (fun _ => by kernel_rfl) ?_)
    refine Xg.ops_op (by kernel_rfl) (Xg.opx_pure ((Value.pointer (some (Addr.mk p (0 : Nat) none)))) rfl (fun _ => by kernel_rfl) ?_)
    refine Xg.ops_op (by kernel_rfl) (Xg.opx_pure ((Value.pointer (some (Addr.mk p (0 : Nat) none)))) rfl (fun _ => by kernel_rfl) ?_)
    refine Xg.ops_op (by kernel_rfl) (Xg.opx_pure ((Value.pointer (some (Addr.mk p (0 : Nat) none)))) rfl (fun _ => by kernel_rfl) ?_)
    refine Xg.ops_op (by kernel_rfl) (Xg.opx_load (b := p) (off := ((0 : Nat))) 0 (Value.int IntKind.u8 σ.buttons) rfl (by kernel_rfl) (by kernel_rfl) (by kernel_rfl) ?_)
    refine Xg.ops_op (by kernel_rfl) (Xg.opx_pure (.int .u8 (Xg.band .u8 (σ.buttons) (((15 : Int))))) rfl (fun _ => by kernel_rfl) ?_)
    refine Xg.ops_op (by kernel_rfl) (Xg.opx_pure (.int .u8 (Xg.bor .u8 (((0 : Int))) ((band IntKind.u8 σ.buttons (15 : Int))))) rfl (fun _ => by kernel_rfl) ?_)
    refine Xg.ops_op (by kernel_rfl) (Xg.opx_pure ((Value.int IntKind.u8 (bor IntKind.u8 (0 : Int) (band IntKind.u8 σ.buttons (15 : Int))))) rfl (fun _ => by kernel_rfl) ?_)
    refine Xg.ops_nil ?_
    refine Xg.at_seq ?_
    refine Xg.at_seq ?_
    refine Xg.at_region ?_
    refine Xg.ops_op (by kernel_rfl) (Xg.opx_pure ((Value.pointer (some (Addr.mk p (0 : Nat) none)))) rfl (fun _ => by kernel_rfl) ?_)
    refine Xg.ops_op (by kernel_rfl) (Xg.opx_pure ((Value.pointer (some (Addr.mk p (0 : Nat) none)))) rfl (fun _ => by kernel_rfl) ?_)
    refine Xg.ops_op (by kernel_rfl) (Xg.opx_pure ((Value.pointer (some (Addr.mk p (1 : Nat) none)))) rfl (fun _ => by kernel_rfl) ?_)
    refine Xg.ops_op (by kernel_rfl) (Xg.opx_load (b := p) (off := ((1 : Nat))) 0 (Value.int IntKind.u8 σ.rows) rfl (by kernel_rfl) (by kernel_rfl) (by kernel_rfl) ?_)
    refine Xg.ops_op (by kernel_rfl) (Xg.opx_pure (.int .u8 (Xg.band .u8 (σ.rows) (((32 : Int))))) rfl (fun _ => by kernel_rfl) ?_)
    refine Xg.ops_op (by kernel_rfl) (Xg.opx_pure (.bool (decide (((band IntKind.u8 σ.rows (32 : Int)) : Int) = ((0 : Int))))) rfl (fun _ => by kernel_rfl) ?_)
    refine Xg.ops_nil ?_
    refine Xg.at_dec (p := (band IntKind.u8 σ.rows (32 : Int) = (0 : Int))) (by kernel_rfl) (fun xh2 => ?_) (fun xh2 => ?_)
    refine Xg.at_region ?_
    refine Xg.ops_op (by kernel_rfl) (Xg.opx_pure ((Value.int IntKind.u8 (bor IntKind.u8 (0 : Int) (band IntKind.u8 σ.buttons (15 : Int))))) rfl (fun _ => by kernel_rfl) ?_)
    refine Xg.ops_op (by kernel_rfl) (Xg.opx_pure ((Value.pointer (some (Addr.mk p (0 : Nat) none)))) rfl (fun _ => by kernel_rfl) ?_)
    refine Xg.ops_op (by kernel_rfl) (Xg.opx_pure ((Value.pointer (some (Addr.mk p (0 : Nat) none)))) rfl (fun _ => by kernel_rfl) ?_)
    refine Xg.ops_op (by kernel_rfl) (Xg.opx_pure ((Value.pointer (some (Addr.mk p (0 : Nat) none)))) rfl (fun _ => by kernel_rfl) ?_)
    refine Xg.ops_op (by kernel_rfl) (Xg.opx_load (b := p) (off := ((0 : Nat))) 0 (Value.int IntKind.u8 σ.buttons) rfl (by kernel_rfl) (by kernel_rfl) (by kernel_rfl) ?_)
    refine Xg.ops_op (by kernel_rfl) (Xg.opx_int .u8 (Int.fdiv (σ.buttons) 16) rfl (fun _ => by kernel_rfl) (Xg.shr_div _ 16 (by decide)) ?_)
    refine Xg.ops_op (by kernel_rfl) (Xg.opx_pure (.int .u8 (Xg.bor .u8 ((bor IntKind.u8 (0 : Int) (band IntKind.u8 σ.buttons (15 : Int)))) ((σ.buttons / (16 : Int))))) rfl (fun _ => by kernel_rfl) ?_)
    refine Xg.ops_op (by kernel_rfl) (Xg.opx_pure ((Value.int IntKind.u8 (bor IntKind.u8 (bor IntKind.u8 (0 : Int) (band IntKind.u8 σ.buttons (15 : Int))) (σ.buttons / (16 : Int))))) rfl (fun _ => by kernel_rfl) ?_)
    refine Xg.ops_nil ?_
    refine Xg.at_seq ?_
    refine Xg.at_region ?_
    refine Xg.ops_op (by kernel_rfl) (Xg.opx_pure ((Value.int IntKind.u8 (bor IntKind.u8 (bor IntKind.u8 (0 : Int) (band IntKind.u8 σ.buttons (15 : Int))) (σ.buttons / (16 : Int))))) rfl (fun _ => by kernel_rfl) ?_)
    refine Xg.ops_op (by kernel_rfl) (Xg.opx_pure (.int .u8 (Xg.bxor .u8 255 ((bor IntKind.u8 (bor IntKind.u8 (0 : Int) (band IntKind.u8 σ.buttons (15 : Int))) (σ.buttons / (16 : Int)))))) rfl (fun _ => by kernel_rfl) ?_)
    refine Xg.ops_op (by kernel_rfl) (Xg.opx_pure (.int .u8 (Xg.band .u8 ((bxor IntKind.u8 (255 : Int) (bor IntKind.u8 (bor IntKind.u8 (0 : Int) (band IntKind.u8 σ.buttons (15 : Int))) (σ.buttons / (16 : Int))))) (((15 : Int))))) rfl (fun _ => by kernel_rfl) ?_)
    refine Xg.ops_op (by kernel_rfl) (Xg.opx_pure ((Value.int IntKind.u8 (band IntKind.u8 (bxor IntKind.u8 (255 : Int) (bor IntKind.u8 (bor IntKind.u8 (0 : Int) (band IntKind.u8 σ.buttons (15 : Int))) (σ.buttons / (16 : Int)))) (15 : Int)))) rfl (fun _ => by kernel_rfl) ?_)
    refine Xg.ops_nil ?_
    refine Xg.at_ret_ps (v := (Value.int IntKind.u8 (band IntKind.u8 (bxor IntKind.u8 (255 : Int) (bor IntKind.u8 (bor IntKind.u8 (0 : Int) (band IntKind.u8 σ.buttons (15 : Int))) (σ.buttons / (16 : Int)))) (15 : Int)))) [0] [PoR p σ s] Go.Proofs.Tryd.func61 (fun _ => by kernel_rfl) (by kernel_rfl) (by kernel_rfl) ?_
    rotate_left
    refine Xg.at_skip ?_
    refine Xg.at_seq ?_
    refine Xg.at_region ?_
    refine Xg.ops_op (by kernel_rfl) (Xg.opx_pure ((Value.int IntKind.u8 (bor IntKind.u8 (0 : Int) (band IntKind.u8 σ.buttons (15 : Int))))) rfl (fun _ => by kernel_rfl) ?_)
    refine Xg.ops_op (by kernel_rfl) (Xg.opx_pure (.int .u8 (Xg.bxor .u8 255 ((bor IntKind.u8 (0 : Int) (band IntKind.u8 σ.buttons (15 : Int)))))) rfl (fun _ => by kernel_rfl) ?_)
    refine Xg.ops_op (by kernel_rfl) (Xg.opx_pure (.int .u8 (Xg.band .u8 ((bxor IntKind.u8 (255 : Int) (bor IntKind.u8 (0 : Int) (band IntKind.u8 σ.buttons (15 : Int))))) (((15 : Int))))) rfl (fun _ => by kernel_rfl) ?_)
    refine Xg.ops_op (by kernel_rfl) (Xg.opx_pure ((Value.int IntKind.u8 (band IntKind.u8 (bxor IntKind.u8 (255 : Int) (bor IntKind.u8 (0 : Int) (band IntKind.u8 σ.buttons (15 : Int)))) (15 : Int)))) rfl (fun _ => by kernel_rfl) ?_)
    refine Xg.ops_nil ?_
    refine Xg.at_ret_ps (v := (Value.int IntKind.u8 (band IntKind.u8 (bxor IntKind.u8 (255 : Int) (bor IntKind.u8 (0 : Int) (band IntKind.u8 σ.buttons (15 : Int)))) (15 : Int)))) [0] [PoR p σ s] Go.Proofs.Tryd.func61 (fun _ => by kernel_rfl) (by kernel_rfl) (by kernel_rfl) ?_
    rotate_left
    refine Xg.at_skip ?_
    refine Xg.at_seq ?_
    refine Xg.at_seq ?_
    refine Xg.at_region ?_
    refine Xg.ops_op (by kernel_rfl) (Xg.opx_pure ((Value.pointer (some (Addr.mk p (0 : Nat) none)))) rfl (fun _ => by kernel_rfl) ?_)
    refine Xg.ops_op (by kernel_rfl) (Xg.opx_pure ((Value.pointer (some (Addr.mk p (0 : Nat) none)))) rfl (fun _ => by kernel_rfl) ?_)
    refine Xg.ops_op (by kernel_rfl) (Xg.opx_pure ((Value.pointer (some (Addr.mk p (1 : Nat) none)))) rfl (fun _ => by kernel_rfl) ?_)
    refine Xg.ops_op (by kernel_rfl) (Xg.opx_load (b := p) (off := ((1 : Nat))) 0 (Value.int IntKind.u8 σ.rows) rfl (by kernel_rfl) (by kernel_rfl) (by kernel_rfl) ?_)
    refine Xg.ops_op (by kernel_rfl) (Xg.opx_pure (.int .u8 (Xg.band .u8 (σ.rows) (((32 : Int))))) rfl (fun _ => by kernel_rfl) ?_)
    refine Xg.ops_op (by kernel_rfl) (Xg.opx_pure (.bool (decide (((band IntKind.u8 σ.rows (32 : Int)) : Int) = ((0 : Int))))) rfl (fun _ => by kernel_rfl) ?_)
    refine Xg.ops_nil ?_
    refine Xg.at_dec (p := (band IntKind.u8 σ.rows (32 : Int) = (0 : Int))) (by kernel_rfl) (fun xh2 => ?_) (fun xh2 => ?_)
    refine Xg.at_region ?_
    refine Xg.ops_op (by kernel_rfl) (Xg.opx_pure ((Value.int IntKind.u8 (0 : Int))) rfl (fun _ => by kernel_rfl) ?_)
    refine Xg.ops_op (by kernel_rfl) (Xg.opx_pure ((Value.pointer (some (Addr.mk p (0 : Nat) none)))) rfl (fun _ => by kernel_rfl) ?_)
    refine Xg.ops_op (by kernel_rfl) (Xg.opx_pure ((Value.pointer (some (Addr.mk p (0 : Nat) none)))) rfl (fun _ => by kernel_rfl) ?_)
    refine Xg.ops_op (by kernel_rfl) (Xg.opx_pure ((Value.pointer (some (Addr.mk p (0 : Nat) none)))) rfl (fun _ => by kernel_rfl) ?_)
    refine Xg.ops_op (by kernel_rfl) (Xg.opx_load (b := p) (off := ((0 : Nat))) 0 (Value.int IntKind.u8 σ.buttons) rfl (by kernel_rfl) (by kernel_rfl) (by kernel_rfl) ?_)
    refine Xg.ops_op (by kernel_rfl) (Xg.opx_int .u8 (Int.fdiv (σ.buttons) 16) rfl (fun _ => by kernel_rfl) (Xg.shr_div _ 16 (by decide)) ?_)
    refine Xg.ops_op (by kernel_rfl) (Xg.opx_pure (.int .u8 (Xg.bor .u8 (((0 : Int))) ((σ.buttons / (16 : Int))))) rfl (fun _ => by kernel_rfl) ?_)
    refine Xg.ops_op (by kernel_rfl) (Xg.opx_pure ((Value.int IntKind.u8 (bor IntKind.u8 (0 : Int) (σ.buttons / (16 : Int))))) rfl (fun _ => by kernel_rfl) ?_)
    refine Xg.ops_nil ?_
    refine Xg.at_seq ?_
    refine Xg.at_region ?_
    refine Xg.ops_op (by kernel_rfl) (Xg.opx_pure ((Value.int IntKind.u8 (bor IntKind.u8 (0 : Int) (σ.buttons / (16 : Int))))) rfl (fun _ => by kernel_rfl) ?_)
    refine Xg.ops_op (by kernel_rfl) (Xg.opx_pure (.int .u8 (Xg.bxor .u8 255 ((bor IntKind.u8 (0 : Int) (σ.buttons / (16 : Int)))))) rfl (fun _ => by kernel_rfl) ?_)
    refine Xg.ops_op (by kernel_rfl) (Xg.opx_pure (.int .u8 (Xg.band .u8 ((bxor IntKind.u8 (255 : Int) (bor IntKind.u8 (0 : Int) (σ.buttons / (16 : Int))))) (((15 : Int))))) rfl (fun _ => by kernel_rfl) ?_)
    refine Xg.ops_op (by kernel_rfl) (Xg.opx_pure ((Value.int IntKind.u8 (band IntKind.u8 (bxor IntKind.u8 (255 : Int) (bor IntKind.u8 (0 : Int) (σ.buttons / (16 : Int)))) (15 : Int)))) rfl (fun _ => by kernel_rfl) ?_)
    refine Xg.ops_nil ?_
    refine Xg.at_ret_ps (v := (Value.int IntKind.u8 (band IntKind.u8 (bxor IntKind.u8 (255 : Int) (bor IntKind.u8 (0 : Int) (σ.buttons / (16 : Int)))) (15 : Int)))) [0] [PoR p σ s] Go.Proofs.Tryd.func61 (fun _ => by kernel_rfl) (by kernel_rfl) (by kernel_rfl) ?_
    rotate_left
    refine Xg.at_skip ?_
    refine Xg.at_seq ?_
    refine Xg.at_region ?_
    refine Xg.ops_op (by kernel_rfl) (Xg.opx_pure ((Value.int IntKind.u8 (0 : Int))) rfl (fun _ => by kernel_rfl) ?_)
    refine Xg.ops_op (by kernel_rfl) (Xg.opx_pure ((Value.int IntKind.u8 (255 : Int))) rfl (fun _ => by kernel_rfl) ?_)
    refine Xg.ops_op (by kernel_rfl) (Xg.opx_pure ((Value.int IntKind.u8 (15 : Int))) rfl (fun _ => by kernel_rfl) ?_)
    refine Xg.ops_op (by kernel_rfl) (Xg.opx_pure ((Value.int IntKind.u8 (15 : Int))) rfl (fun _ => by kernel_rfl) ?_)
    refine Xg.ops_nil ?_
    refine Xg.at_ret_ps (v := (Value.int IntKind.u8 (15 : Int))) [0] [PoR p σ s] Go.Proofs.Tryd.func61 (fun _ => by kernel_rfl) (by kernel_rfl) (by kernel_rfl) ?_
    rotate_left)
  all_goals exact ⟨by simp [keysI, *], rfl⟩

theorem band3 {x : Int} : 0 ≤ band .u8 x 3 ∧ band .u8 x 3 ≤ 3 := by
  have h : (BitVec.ofInt 8 x &&& 3#8).toNat ≤ 3 := by rw [BitVec.toNat_and]; exact Nat.and_le_right
  have e : band .u8 x 3 = (BitVec.ofInt 8 x &&& 3#8).toNat := by
    show IntKind.u8.wrap _ = _
    rw [wrap_u8_mod]
    show ((BitVec.ofInt 8 x &&& 3#8).toNat : Int) % 256 = _
    omega
  omega

def drvI (c : Int) : Int := [(9 : Int), 3, 5, 7].getD (band .u8 c 3).toNat 0

theorem drv_bd (c : Int) : 0 ≤ drvI c ∧ drvI c ≤ 9 := by
  unfold drvI
  have h := @band3 c
  obtain ⟨n, hn⟩ : ∃ n : Nat, (band .u8 c 3).toNat = n := ⟨_, rfl⟩
  rw [hn]
  have : n ≤ 3 := by omega
  match n, this with
  | 0, _ => decide
  | 1, _ => decide
  | 2, _ => decide
  | 3, _ => decide

def driveB (σ : Po) : Bool := !decide (band .u8 σ.control 4 = 0) && decide (band .u16 (Int.fdiv σ.counter (2 ^ min (drvI σ.control).toNat 16)) 1 = 1)

theorem drive_d (p : Nat) (σ : Po) (s : Value) : Does Tryd.prog 80 [.pointer (some ⟨p, 0, none⟩)] [PoR p σ s, (Drv te)] (Ret (.bool (driveB σ)) [PoR p σ s, (Drv te)]) := by
  have hc := @band3 σ.control
  have hd : 0 ≤ [(9 : Int), (3 : Int), (5 : Int), (7 : Int)].getD (band .u8 σ.control 3).toNat (0 : Int) := (drv_bd σ.control).1
  (focus
    refine Xg.spec_of Go.Proofs.Tryd.func80 rfl Go.Proofs.Tryd.ntmps80 fun g F => ?_)
  (focus
    refine Xg.at_seq ?_
    refine Xg.at_region ?_
    refine Xg.ops_op (by kernel_rfl) (Xg.opx_pure ((Value.bool false)) rfl (fun _ => by kernel_rfl) ?_)
    refine Xg.ops_nil ?_
    refine Xg.at_seq ?_
    refine Xg.at_draw [] [(3, [0, 1, 2, 3], Xg.CellIs (p) (((7 : Nat))) ((Value.int IntKind.u8 σ.control))), (10, [0, 1, 2, 3, 4, 5, 6, 7, 8, 9, 10, 11, 12, 13, 14, 15, 16, 17], Xg.CellIs (p) (((4 : Nat))) ((Value.int IntKind.u16 σ.counter))), (14, [0, 1, 2, 3, 4, 5, 6, 7, 8, 9, 10, 11, 12, 13, 14], Xg.CellIs (p) (((7 : Nat))) ((Value.int IntKind.u8 σ.control))), (17, [0, 1, 2, 3, 4, 5, 6, 7, 8, 9, 10, 11, 12, 13, 14, 15, 16, 17], Xg.CellIs (((0 : Nat))) (((band IntKind.u8 σ.control (3 : Int)).toNat)) ((Value.int IntKind.u64 ([(9 : Int), (3 : Int), (5 : Int), (7 : Int)].getD (band IntKind.u8 σ.control (3 : Int)).toNat (0 : Int)))))] (by kernel_rfl) ?_
    refine Xg.any_pure ((Value.pointer (some (Addr.mk p (0 : Nat) none)))) 0 (by kernel_rfl) rfl (by kernel_rfl) (by kernel_rfl) (by kernel_rfl) (by kernel_rfl) rfl (fun _ => by kernel_rfl) ?_
    refine Xg.any_pure ((Value.pointer (some (Addr.mk p (0 : Nat) none)))) 1 (by kernel_rfl) rfl (by kernel_rfl) (by kernel_rfl) (by kernel_rfl) (by kernel_rfl) rfl (fun _ => by kernel_rfl) ?_
    refine Xg.any_pure ((Value.pointer (some (Addr.mk p (7 : Nat) none)))) 2 (by kernel_rfl) rfl (by kernel_rfl) (by kernel_rfl) (by kernel_rfl) (by kernel_rfl) rfl (fun _ => by kernel_rfl) ?_
    refine Xg.any_reads (Value.int IntKind.u8 σ.control) 3 0 (by kernel_rfl) rfl (by kernel_rfl) (by kernel_rfl) (by kernel_rfl) (by kernel_rfl) rfl rfl (by kernel_rfl) (Xg.cell_now (b := p) (off := ((7 : Nat))) 0 rfl (by kernel_rfl)) (fun _ h => Xg.run_load (by kernel_rfl) (by kernel_rfl) h) ?_
    refine Xg.any_pure (.int .u8 (Xg.band .u8 (σ.control) (((4 : Int))))) 4 (by kernel_rfl) rfl (by kernel_rfl) (by kernel_rfl) (by kernel_rfl) (by kernel_rfl) rfl (fun _ => by kernel_rfl) ?_
    refine Xg.any_pure (.bool (!decide (((band IntKind.u8 σ.control (4 : Int)) : Int) = ((0 : Int))))) 5 (by kernel_rfl) rfl (by kernel_rfl) (by kernel_rfl) (by kernel_rfl) (by kernel_rfl) rfl (fun _ => by kernel_rfl) ?_
    refine Xg.any_pure ((Value.bool !decide (band IntKind.u8 σ.control (4 : Int) = (0 : Int)))) 6 (by kernel_rfl) rfl (by kernel_rfl) (by kernel_rfl) (by kernel_rfl) (by kernel_rfl) rfl (fun _ => by kernel_rfl) ?_
    refine Xg.any_flag (j := 9) (c := (!decide (band IntKind.u8 σ.control (4 : Int) = (0 : Int)))) (by kernel_rfl) (fun xh1 => ?_) (fun xh1 => ?_)
    replace xh1 : ¬ ((band IntKind.u8 σ.control (4 : Int) = (0 : Int))) := by simpa using xh1
    rotate_left
    replace xh1 : (band IntKind.u8 σ.control (4 : Int) = (0 : Int)) := by simpa using xh1
    rotate_right
    refine Xg.any_pure ((Value.pointer (some (Addr.mk p (0 : Nat) none)))) 7 (by kernel_rfl) rfl (by kernel_rfl) (by kernel_rfl) (by kernel_rfl) (by kernel_rfl) rfl (fun _ => by kernel_rfl) ?_
    refine Xg.any_pure ((Value.pointer (some (Addr.mk p (0 : Nat) none)))) 8 (by kernel_rfl) rfl (by kernel_rfl) (by kernel_rfl) (by kernel_rfl) (by kernel_rfl) rfl (fun _ => by kernel_rfl) ?_
    refine Xg.any_pure ((Value.pointer (some (Addr.mk p (4 : Nat) none)))) 9 (by kernel_rfl) rfl (by kernel_rfl) (by kernel_rfl) (by kernel_rfl) (by kernel_rfl) rfl (fun _ => by kernel_rfl) ?_
    refine Xg.any_reads (Value.int IntKind.u16 σ.counter) 10 1 (by kernel_rfl) rfl (by kernel_rfl) (by kernel_rfl) (by kernel_rfl) (by kernel_rfl) rfl rfl (by kernel_rfl) (Xg.cell_now (b := p) (off := ((4 : Nat))) 0 rfl (by kernel_rfl)) (fun _ h => Xg.run_load (by kernel_rfl) (by kernel_rfl) h) ?_
    refine Xg.any_pure ((Value.pointer (some (Addr.mk p (0 : Nat) none)))) 11 (by kernel_rfl) rfl (by kernel_rfl) (by kernel_rfl) (by kernel_rfl) (by kernel_rfl) rfl (fun _ => by kernel_rfl) ?_
    refine Xg.any_pure ((Value.pointer (some (Addr.mk p (0 : Nat) none)))) 12 (by kernel_rfl) rfl (by kernel_rfl) (by kernel_rfl) (by kernel_rfl) (by kernel_rfl) rfl (fun _ => by kernel_rfl) ?_
    refine Xg.any_pure ((Value.pointer (some (Addr.mk p (7 : Nat) none)))) 13 (by kernel_rfl) rfl (by kernel_rfl) (by kernel_rfl) (by kernel_rfl) (by kernel_rfl) rfl (fun _ => by kernel_rfl) ?_
    refine Xg.any_reads (Value.int IntKind.u8 σ.control) 14 2 (by kernel_rfl) rfl (by kernel_rfl) (by kernel_rfl) (by kernel_rfl) (by kernel_rfl) rfl rfl (by kernel_rfl) (Xg.cell_now (b := p) (off := ((7 : Nat))) 0 rfl (by kernel_rfl)) (fun _ h => Xg.run_load (by kernel_rfl) (by kernel_rfl) h) ?_
    refine Xg.any_pure (.int .u8 (Xg.band .u8 (σ.control) (((3 : Int))))) 15 (by kernel_rfl) rfl (by kernel_rfl) (by kernel_rfl) (by kernel_rfl) (by kernel_rfl) rfl (fun _ => by kernel_rfl) ?_
    refine Xg.any_pure (.pointer (some (Addr.mk ((0 : Nat)) ((band IntKind.u8 σ.control (3 : Int)).toNat) none))) 16 (by kernel_rfl) rfl (by kernel_rfl) (by kernel_rfl) (by kernel_rfl) (by kernel_rfl) rfl (Xg.run_ix_array' (elem := 64) (len := 4) (b := ((0 : Nat))) (off := ((0 : Nat))) (kd := .u8) (e := (band IntKind.u8 σ.control (3 : Int))) 1 ((band IntKind.u8 σ.control (3 : Int)).toNat) ((band IntKind.u8 σ.control (3 : Int)).toNat) (by kernel_rfl) (by kernel_rfl) (by kernel_rfl) (by kernel_rfl) (by omega) (by omega) (by omega)) ?_
    refine Xg.any_reads (Value.int IntKind.u64 ([(9 : Int), (3 : Int), (5 : Int), (7 : Int)].getD (band IntKind.u8 σ.control (3 : Int)).toNat (0 : Int))) 17 3 (by kernel_rfl) rfl (by kernel_rfl) (by kernel_rfl) (by kernel_rfl) (by kernel_rfl) rfl rfl (by kernel_rfl) (Xg.cell_now (b := ((0 : Nat))) (off := ((band IntKind.u8 σ.control (3 : Int)).toNat)) 1 rfl (Xg.get_ints (kd := .u64) (xs := [(9 : Int), (3 : Int), (5 : Int), (7 : Int)]) (by show _ < 4; omega))) (fun _ h => Xg.run_load (by kernel_rfl) (by kernel_rfl) h) ?_
    refine Xg.any_pure (.int .u16 (Int.fdiv σ.counter (2 ^ min (Int.toNat ([(9 : Int), (3 : Int), (5 : Int), (7 : Int)].getD (band IntKind.u8 σ.control (3 : Int)).toNat (0 : Int))) (IntKind.bits .u16)))) 18 (by kernel_rfl) rfl (by kernel_rfl) (by kernel_rfl) (by kernel_rfl) (by kernel_rfl) rfl (fun _ => Xg.run_shr (k1 := .u16) (k2 := .u64) (m := σ.counter) (e := ([(9 : Int), (3 : Int), (5 : Int), (7 : Int)].getD (band IntKind.u8 σ.control (3 : Int)).toNat (0 : Int))) (by kernel_rfl) (by kernel_rfl) (by omega)) ?_
    refine Xg.any_pure (.int .u16 (Xg.band .u16 ((σ.counter.fdiv ((2 : Int) ^ min ([(9 : Int), (3 : Int), (5 : Int), (7 : Int)].getD (band IntKind.u8 σ.control (3 : Int)).toNat (0 : Int)).toNat IntKind.u16.bits))) (((1 : Int))))) 19 (by kernel_rfl) rfl (by kernel_rfl) (by kernel_rfl) (by kernel_rfl) (by kernel_rfl) rfl (fun _ => by kernel_rfl) ?_
    refine Xg.any_pure (.bool (decide (((band IntKind.u16 (σ.counter.fdiv ((2 : Int) ^ min ([(9 : Int), (3 : Int), (5 : Int), (7 : Int)].getD (band IntKind.u8 σ.control (3 : Int)).toNat (0 : Int)).toNat IntKind.u16.bits)) (1 : Int)) : Int) = ((1 : Int))))) 20 (by kernel_rfl) rfl (by kernel_rfl) (by kernel_rfl) (by kernel_rfl) (by kernel_rfl) rfl (fun _ => by kernel_rfl) ?_
    refine Xg.any_pure ((Value.bool (decide (band IntKind.u16 (σ.counter.fdiv ((2 : Int) ^ min ([(9 : Int), (3 : Int), (5 : Int), (7 : Int)].getD (band IntKind.u8 σ.control (3 : Int)).toNat (0 : Int)).toNat IntKind.u16.bits)) (1 : Int) = (1 : Int))))) 21 (by kernel_rfl) rfl (by kernel_rfl) (by kernel_rfl) (by kernel_rfl) (by kernel_rfl) rfl (fun _ => by kernel_rfl) ?_
    refine Xg.any_pure ((Value.bool (decide (band IntKind.u16 (σ.counter.fdiv ((2 : Int) ^ min ([(9 : Int), (3 : Int), (5 : Int), (7 : Int)].getD (band IntKind.u8 σ.control (3 : Int)).toNat (0 : Int)).toNat IntKind.u16.bits)) (1 : Int) = (1 : Int))))) 22 (by kernel_rfl) rfl (by kernel_rfl) (by kernel_rfl) (by kernel_rfl) (by kernel_rfl) rfl (fun _ => by kernel_rfl) ?_
    refine Xg.any_nil (by kernel_rfl) ?_
    refine Xg.at_ret_ps (v := (Value.bool (decide (band IntKind.u16 (σ.counter.fdiv ((2 : Int) ^ min ([(9 : Int), (3 : Int), (5 : Int), (7 : Int)].getD (band IntKind.u8 σ.control (3 : Int)).toNat (0 : Int)).toNat IntKind.u16.bits)) (1 : Int) = (1 : Int))))) [0, 1] [PoR p σ s, (Drv te)] Go.Proofs.Tryd.func80 (fun _ => by kernel_rfl) (by kernel_rfl) (by kernel_rfl) ?_
    rotate_left
    refine Xg.any_skip 7 (by kernel_rfl) rfl (by kernel_rfl) (by kernel_rfl) (by kernel_rfl) (by kernel_rfl) ?_
    refine Xg.any_skip 8 (by kernel_rfl) rfl (by kernel_rfl) (by kernel_rfl) (by kernel_rfl) (by kernel_rfl) ?_
    refine Xg.any_skip 9 (by kernel_rfl) rfl (by kernel_rfl) (by kernel_rfl) (by kernel_rfl) (by kernel_rfl) ?_
    refine Xg.any_skip 10 (by kernel_rfl) rfl (by kernel_rfl) (by kernel_rfl) (by kernel_rfl) (by kernel_rfl) ?_
    refine Xg.any_skip 11 (by kernel_rfl) rfl (by kernel_rfl) (by kernel_rfl) (by kernel_rfl) (by kernel_rfl) ?_
    refine Xg.any_skip 12 (by kernel_rfl) rfl (by kernel_rfl) (by kernel_rfl) (by kernel_rfl) (by kernel_rfl) ?_
    refine Xg.any_skip 13 (by kernel_rfl) rfl (by kernel_rfl) (by kernel_rfl) (by kernel_rfl) (by kernel_rfl) ?_
    refine Xg.any_skip 14 (by kernel_rfl) rfl (by kernel_rfl) (by kernel_rfl) (by kernel_rfl) (by kernel_rfl) ?_
    refine Xg.any_skip 15 (by kernel_rfl) rfl (by kernel_rfl) (by kernel_rfl) (by kernel_rfl) (by kernel_rfl) ?_
    refine Xg.any_skip 16 (by kernel_rfl) rfl (by kernel_rfl) (by kernel_rfl) (by kernel_rfl) (by kernel_rfl) ?_
    refine Xg.any_skip 17 (by kernel_rfl) rfl (by kernel_rfl) (by kernel_rfl) (by kernel_rfl) (by kernel_rfl) ?_
    refine Xg.any_skip 18 (by kernel_rfl) rfl (by kernel_rfl) (by kernel_rfl) (by kernel_rfl) (by kernel_rfl) ?_
    refine Xg.any_skip 19 (by kernel_rfl) rfl (by kernel_rfl) (by kernel_rfl) (by kernel_rfl) (by kernel_rfl) ?_
    refine Xg.any_skip 20 (by kernel_rfl) rfl (by kernel_rfl) (by kernel_rfl) (by kernel_rfl) (by kernel_rfl) ?_
    refine Xg.any_pure ((Value.bool false)) 21 (by kernel_rfl) rfl (by kernel_rfl) (by kernel_rfl) (by kernel_rfl) (by kernel_rfl) rfl (fun _ => by kernel_rfl) ?_
    refine Xg.any_pure ((Value.bool false)) 22 (by kernel_rfl) rfl (by kernel_rfl) (by kernel_rfl) (by kernel_rfl) (by kernel_rfl) rfl (fun _ => by kernel_rfl) ?_
    refine Xg.any_nil (by kernel_rfl) ?_
    refine Xg.at_ret_ps (v := (Value.bool false)) [0, 1] [PoR p σ s, (Drv te)] Go.Proofs.Tryd.func80 (fun _ => by kernel_rfl) (by kernel_rfl) (by kernel_rfl) ?_
    rotate_left)
  all_goals exact ⟨by simp [driveB, drvI, IntKind.bits, *], rfl⟩

end Go.Proofs.YtncdmccdclhokaaDoor
