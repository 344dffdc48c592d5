/- The ports' laws: what their scripts do. -/
import Derived.Test.YtncdmccdclhokaaDoorKP7
namespace Go.Proofs.YtncdmccdclhokaaDoor
open Go.Sl Go.Xg
set_option linter.unusedVariables false
set_option linter.unusedSimpArgs false
set_option maxHeartbeats 4000000
set_option maxRecDepth 100000
variable {te : TypeId}

def i64ok (x : Int) : Prop := -9223372036854775808 ≤ x ∧ x ≤ 9223372036854775807

/-- Which of n things the number c speaks of. -/
def pickN (c : Int) (n : Nat) : Nat := ((if c < 0 then -(c + 1) else c) % (n : Int)).toNat

theorem pickN_lt (c : Int) (n : Nat) (h : 0 < n) : pickN c n < n := by
  unfold pickN
  have h1 := Int.emod_lt_of_pos (if c < 0 then -(c + 1) else c) (b := (n : Int)) (by omega)
  have h2 := Int.emod_nonneg (if c < 0 then -(c + 1) else c) (b := (n : Int)) (by omega)
  omega

theorem pickN_eq (c : Int) (n : Nat) (h : 0 < n) : ((pickN c n : Nat) : Int) = (if c < 0 then -(c + 1) else c) % (n : Int) := by
  unfold pickN
  have h2 := Int.emod_nonneg (if c < 0 then -(c + 1) else c) (b := (n : Int)) (by omega)
  omega

theorem pick_d (c : Int) (n : Nat) (hc : i64ok c) (hn : 0 < n) : Does Tryd.prog 14 [.int .i64 c, .int .i64 (n : Nat)] []
    (RetE (fun x : Nat => x = pickN c n ∧ x < n) (fun x => .int .i64 (x : Nat)) (fun _ => [])) := by
  refine Does.mono (post := Ret (.int .i64 ((if c < 0 then -(c + 1) else c) % (n : Int))) []) ?_ fun v ps ⟨e1, e2⟩ => ⟨pickN c n, ⟨rfl, pickN_lt c n hn⟩, by rw [e1, ← pickN_eq c n hn], e2⟩
  obtain ⟨h1, h2⟩ := hc
  (focus
    refine Xg.spec_of Go.Proofs.Tryd.func14 rfl Go.Proofs.Tryd.ntmps14 fun g F => ?_)
  (focus
    refine Xg.at_seq ?_
    refine Xg.at_region ?_
    refine Xg.ops_op (by kernel_rfl) (Xg.opx_pure ((Value.int IntKind.i64 (0 : Int))) rfl (fun _ => by kernel_rfl) ?_)
    refine Xg.ops_nil ?_
    refine Xg.at_seq ?_
    refine Xg.at_seq ?_
    refine Xg.at_region ?_
    refine Xg.ops_op (by kernel_rfl) (Xg.opx_pure ((Value.int IntKind.i64 c)) rfl (fun _ => by kernel_rfl) ?_)
    refine Xg.ops_op (by kernel_rfl) (Xg.opx_pure (.bool (decide ((c : Int) < ((0 : Int))))) rfl (fun _ => by kernel_rfl) ?_)
    refine Xg.ops_nil ?_
    refine Xg.at_dec (p := (c < (0 : Int))) (by kernel_rfl) (fun xh1 => ?_) (fun xh1 => ?_)
    refine Xg.at_region ?_
    refine Xg.ops_op (by kernel_rfl) (Xg.opx_pure ((Value.int IntKind.i64 c)) rfl (fun _ => by kernel_rfl) ?_)
    refine Xg.ops_op (by kernel_rfl) (Xg.opx_int .i64 (IntKind.wrap .i64 ((c + (1 : Int)))) rfl (fun _ => by kernel_rfl) (Xg.wrap_i64_in (by omega)) ?_)
    refine Xg.ops_op (by kernel_rfl) (Xg.opx_int .i64 (IntKind.wrap .i64 (((0 : Int) - (c + (1 : Int))))) rfl (fun _ => by kernel_rfl) (Xg.wrap_i64_in (by omega)) ?_)
    refine Xg.ops_op (by kernel_rfl) (Xg.opx_pure ((Value.int IntKind.i64 ((0 : Int) - (c + (1 : Int))))) rfl (fun _ => by kernel_rfl) ?_)
    refine Xg.ops_nil ?_
    refine Xg.at_seq ?_
    refine Xg.at_region ?_
    refine Xg.ops_op (by kernel_rfl) (Xg.opx_pure ((Value.int IntKind.i64 ((0 : Int) - (c + (1 : Int))))) rfl (fun _ => by kernel_rfl) ?_)
    refine Xg.ops_op (by kernel_rfl) (Xg.opx_pure ((Value.int IntKind.i64 (↑n : Int))) rfl (fun _ => by kernel_rfl) ?_)
    refine Xg.ops_op (by kernel_rfl) (Xg.opx_run (.int .i64 (((0 : Int) - (c + (1 : Int))) % ((↑n : Int)))) rfl (fun _ => Xg.run_rem (k1 := .i64) (m := ((0 : Int) - (c + (1 : Int)))) (e := ((↑n : Int))) (by kernel_rfl) (by kernel_rfl) (by omega) (by omega)) ?_)
    refine Xg.ops_op (by kernel_rfl) (Xg.opx_pure ((Value.int IntKind.i64 (((0 : Int) - (c + (1 : Int))) % (↑n : Int)))) rfl (fun _ => by kernel_rfl) ?_)
    refine Xg.ops_nil ?_
    refine Xg.at_ret_ps (v := (Value.int IntKind.i64 (((0 : Int) - (c + (1 : Int))) % (↑n : Int)))) [] [] Go.Proofs.Tryd.func14 (fun _ => by kernel_rfl) (by kernel_rfl) (by kernel_rfl) ?_
    rotate_left
    refine Xg.at_skip ?_
    refine Xg.at_seq ?_
    refine Xg.at_region ?_
    refine Xg.ops_op (by kernel_rfl) (Xg.opx_pure ((Value.int IntKind.i64 c)) rfl (fun _ => by kernel_rfl) ?_)
    refine Xg.ops_op (by kernel_rfl) (Xg.opx_pure ((Value.int IntKind.i64 (↑n : Int))) rfl (fun _ => by kernel_rfl) ?_)
    refine Xg.ops_op (by kernel_rfl) (Xg.opx_run (.int .i64 (c % ((↑n : Int)))) rfl (fun _ => Xg.run_rem (k1 := .i64) (m := c) (e := ((↑n : Int))) (by kernel_rfl) (by kernel_rfl) (by omega) (by omega)) ?_)
    refine Xg.ops_op (by kernel_rfl) (Xg.opx_pure ((Value.int IntKind.i64 (c % (↑n : Int)))) rfl (fun _ => by kernel_rfl) ?_)
    refine Xg.ops_nil ?_
    refine Xg.at_ret_ps (v := (Value.int IntKind.i64 (c % (↑n : Int)))) [] [] Go.Proofs.Tryd.func14 (fun _ => by kernel_rfl) (by kernel_rfl) (by kernel_rfl) ?_
    rotate_left)
  all_goals exact ⟨by first | (rw [if_pos (by omega), Int.zero_sub]; done) | (rw [if_neg (by omega)]; done), rfl⟩

/-- A script's act. -/
structure Act where
  kind : Int
  a : Int
  b : Int

instance : Inhabited Act := ⟨⟨0, 0, 0⟩⟩

abbrev actC (t : Act) : List Value := [.int .i64 t.kind, .int .i64 t.a, .int .i64 t.b]
def Act.ok (t : Act) : Prop := i64ok t.kind ∧ i64ok t.a ∧ i64ok t.b

abbrev adrs : List Int := [65280, 65281, 65282, 65284, 65285, 65286, 65287, 65295]

theorem write_any (p : Nat) (σ : Po) (s : Value) (i : Nat) (hi : i < 8) (v : Int) (hv : 0 ≤ v ∧ v ≤ 255) : Does Tryd.prog 15 [pt p, .int .i64 ([(65280 : Int), 65281, 65282, 65284, 65285, 65286, 65287, 65295].getD i 0), .int .i64 v] [PoR p σ s, (Drv te)] (Ret (.int .i64 0) [PoR p (wrI i σ v) s, (Drv te)]) :=
  match i, hi with
  | 0, _ => write_0 p σ s v hv
  | 1, _ => write_1 p σ s v hv
  | 2, _ => write_2 p σ s v hv
  | 3, _ => write_3 p σ s v hv
  | 4, _ => write_4 p σ s v hv
  | 5, _ => write_5 p σ s v hv
  | 6, _ => write_6 p σ s v hv
  | 7, _ => write_7 p σ s v hv

def doAct (x : Po × List Int) (t : Act) : Po × List Int :=
  if pickN t.kind 6 ≤ 1 then clk (pickN t.a 5000) x
  else if pickN t.kind 6 ≤ 3 then (wrI (pickN t.a 8) x.1 (pickN t.b 256), x.2)
  else if pickN t.kind 6 = 4 then (pressed x.1 { x.1 with buttons := (pickN t.a 256 : Nat) }, x.2)
  else ({ x.1 with requests := takeI x.1.requests (pickN t.a 5 : Nat) }, x.2)

def doN (l : List Act) : Nat → Po × List Int → Po × List Int
  | 0, x => x
  | i + 1, x => doAct (doN l i x) (l.getD i default)

theorem pressed_wf {σ σ' : Po} (h : σ'.Wf) : (pressed σ σ').Wf := by
  unfold pressed
  split
  · exact h
  · exact ⟨h.buttons, h.rows, h.shift, h.line, h.counter, h.timer, h.again, h.control, askI_bd h.requests 4 (by omega), h.alarm, h.transfer, h.sending⟩

theorem takeI_bd {r : Int} (hr : 0 ≤ r ∧ r ≤ 31) (n : Int) : 0 ≤ takeI r n ∧ takeI r n ≤ 31 := by
  unfold takeI
  obtain ⟨r, rfl⟩ := nat_of hr.1
  have h1 : 0 ≤ IntKind.wrap .u8 (1 * 2 ^ min n.toNat 8) ∧ IntKind.wrap .u8 (1 * 2 ^ min n.toNat 8) ≤ 255 := by rw [wrap_u8_mod]; omega
  obtain ⟨y, hy⟩ := nat_of h1.1
  rw [hy] at h1 ⊢
  rw [bclr8 (by omega) (by omega)]
  have : r &&& (255 - y) ≤ r := Nat.and_le_left
  omega

theorem wrI_wf {σ : Po} (h : σ.Wf) (i : Nat) {v : Int} (hv : 0 ≤ v ∧ v ≤ 255) : (wrI i σ v).Wf := by
  have h48 := band8_le v 48 (by omega)
  have h129 := band8_le v 129 (by omega)
  have h7 := band8_le v 7 (by omega)
  have h31 := band8_le v 31 (by omega)
  have hh := h
  obtain ⟨h1, h2, h3, h4, h5, h6, h77, h8, h9, h10, h11, h12⟩ := h
  match i with
  | 0 => exact pressed_wf ⟨h1, ⟨h48.1, by have := h48.2; show band .u8 v 48 ≤ 255; exact Int.le_trans this (by decide)⟩, h3, h4, h5, h6, h77, h8, h9, h10, h11, h12⟩
  | 1 => exact ⟨h1, h2, hv, h4, h5, h6, h77, h8, h9, h10, h11, h12⟩
  | 2 =>
    show (if band .u8 v 129 = 129 then _ else _ : Po).Wf
    split
    · exact ⟨h1, h2, h3, ⟨h129.1, Int.le_trans h129.2 (by decide)⟩, h5, h6, h77, h8, h9, h10, ⟨by show (0 : Int) ≤ 4096; omega, Int.le_refl _⟩, h3⟩
    · exact ⟨h1, h2, h3, ⟨h129.1, Int.le_trans h129.2 (by decide)⟩, h5, h6, h77, h8, h9, h10, ⟨Int.le_refl 0, by show (0 : Int) ≤ 4096; omega⟩, ⟨Int.le_refl 0, by show (0 : Int) ≤ 255; omega⟩⟩
  | 3 =>
    have h2' : ({ σ with counter := 0 } : Po).Wf := ⟨h1, h2, h3, h4, ⟨Int.le_refl 0, by show (0 : Int) ≤ 65535; omega⟩, h6, h77, h8, h9, h10, h11, h12⟩
    exact driven_wf h2' _
  | 4 => exact ⟨h1, h2, h3, h4, h5, hv, h77, h8, h9, ⟨Int.le_refl 0, by show (0 : Int) ≤ 4; omega⟩, h11, h12⟩
  | 5 => exact ⟨h1, h2, h3, h4, h5, h6, hv, h8, h9, h10, h11, h12⟩
  | 6 =>
    have h2' : ({ σ with control := band .u8 v 7 } : Po).Wf := ⟨h1, h2, h3, h4, h5, h6, h77, ⟨h7.1, Int.le_trans h7.2 (by decide)⟩, h9, h10, h11, h12⟩
    exact driven_wf h2' _
  | i + 7 => exact ⟨h1, h2, h3, h4, h5, h6, h77, h8, ⟨h31.1, Int.le_trans h31.2 (by decide)⟩, h10, h11, h12⟩

def OkX (x : Po × List Int) : Prop := x.1.Wf ∧ x.2.length ≤ 256

theorem doAct_ok {x : Po × List Int} (h : OkX x) (t : Act) : OkX (doAct x t) := by
  unfold doAct
  split
  · exact clk_ok h _
  · split
    · exact ⟨wrI_wf h.1 _ (by have := pickN_lt t.b 256 (by omega); omega), h.2⟩
    · split
      · have := pickN_lt t.a 256 (by omega)
        exact ⟨pressed_wf ⟨by dsimp only; omega, h.1.rows, h.1.shift, h.1.line, h.1.counter, h.1.timer, h.1.again, h.1.control, h.1.requests, h.1.alarm, h.1.transfer, h.1.sending⟩, h.2⟩
      · exact ⟨⟨h.1.buttons, h.1.rows, h.1.shift, h.1.line, h.1.counter, h.1.timer, h.1.again, h.1.control, takeI_bd h.1.requests _, h.1.alarm, h.1.transfer, h.1.sending⟩, h.2⟩

theorem doN_ok {x : Po × List Int} (h : OkX x) (l : List Act) (n : Nat) : OkX (doN l n x) := by
  induction n with
  | zero => exact h
  | succ n ih => exact doAct_ok ih _

end Go.Proofs.YtncdmccdclhokaaDoor
