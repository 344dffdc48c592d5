/- The ports package's functions: the clock, what is sent. -/
import Derived.Test.YtncdmccdclhokaaDoorKP2
namespace Go.Proofs.YtncdmccdclhokaaDoor
open Go.Sl Go.Xg
set_option linter.unusedVariables false
set_option linter.unusedSimpArgs false
set_option maxHeartbeats 4000000
set_option maxRecDepth 100000
variable {te : TypeId}

abbrev bts (a : Option Addr) (c : Nat) (xs : List Int) : HP := ints 5 .u8 a c xs

/-- The ports with what was sent. -/
abbrev PoS (p : Nat) (σ : Po) (a : Option Addr) (c : Nat) (xs : List Int) : HP := PoR p σ (.slice a xs.length c)

theorem clone_d (A : HP) (sa : Option Addr) (n sc : Nat) (ys : List Int) (hr : Reads A 1 (.slice sa n sc) n (ys.map (Value.int .u8))) (hn : ys.length = n) (hb : n ≤ 1000000) :
    Does Tryd.prog 34 [.slice sa n sc] [A] (RetE (fun x : Option Addr × Nat => True) (fun x => .slice x.1 ys.length x.2) (fun x => [bts x.1 x.2 ys, A])) := by
  (focus
    refine Xg.spec_of Go.Proofs.Tryd.func34 rfl Go.Proofs.Tryd.ntmps34 fun g F => ?_)
  refine Xg.at_reads 0 hr rfl fun _ hnil => ?_
  cases sa with
  | none =>
    obtain rfl : ys = [] := by simpa using hnil rfl
    obtain rfl : n = 0 := hn.symm
    clear hnil
    (focus
      refine Xg.at_seq ?_
      refine Xg.at_region ?_
      refine Xg.ops_op (by kernel_rfl) (Xg.opx_pure ((Value.slice none (0 : Nat) (0 : Nat))) rfl (fun _ => by kernel_rfl) ?_)
      refine Xg.ops_nil ?_
      refine Xg.at_seq ?_
      refine Xg.at_seq ?_
      refine Xg.at_region ?_
      refine Xg.ops_op (by kernel_rfl) (Xg.opx_pure ((Value.slice none (0 : Nat) sc)) rfl (fun _ => by kernel_rfl) ?_)
      refine Xg.ops_op (by kernel_rfl) (Xg.opx_pure ((Value.bool true)) rfl (fun _ => by kernel_rfl) ?_)
      refine Xg.ops_nil ?_
      refine Xg.at_true (t := true) (by kernel_rfl) rfl ?_
      refine Xg.at_seq ?_
      refine Xg.at_region ?_
      refine Xg.ops_op (by kernel_rfl) (Xg.opx_pure ((Value.slice none (0 : Nat) (0 : Nat))) rfl (fun _ => by kernel_rfl) ?_)
      refine Xg.ops_nil ?_)
    refine Xg.at_nil_ints 5 .u8 ?_
    (focus
      refine Xg.at_ret_ps (v := (Value.slice none (0 : Nat) (0 : Nat))) [0, 1] [ints (5 : TypeId) IntKind.u8 none (0 : Nat) [], A] Go.Proofs.Tryd.func34 (fun _ => by kernel_rfl) (by kernel_rfl) (by kernel_rfl) ?_
      refine ⟨((none, (0 : Nat))), trivial, by kernel_rfl, by kernel_rfl⟩)
  | some b =>
    clear hnil
    (focus
      refine Xg.at_seq ?_
      refine Xg.at_region ?_
      refine Xg.ops_op (by kernel_rfl) (Xg.opx_pure ((Value.slice none (0 : Nat) (0 : Nat))) rfl (fun _ => by kernel_rfl) ?_)
      refine Xg.ops_nil ?_
      refine Xg.at_seq ?_
      refine Xg.at_seq ?_
      refine Xg.at_region ?_
      refine Xg.ops_op (by kernel_rfl) (Xg.opx_pure ((Value.slice (some b) n sc)) rfl (fun _ => by kernel_rfl) ?_)
      refine Xg.ops_op (by kernel_rfl) (Xg.opx_pure ((Value.bool false)) rfl (fun _ => by kernel_rfl) ?_)
      refine Xg.ops_nil ?_
      refine Xg.at_false (t := false) (by kernel_rfl) rfl ?_
      refine Xg.at_skip ?_
      refine Xg.at_seq ?_
      refine Xg.at_region ?_
      refine Xg.ops_op (by kernel_rfl) (Xg.opx_bs (elem := 5) 1 [] [] (by kernel_rfl) (by kernel_rfl) (by decide) rfl (by kernel_rfl) (by kernel_rfl) (by kernel_rfl) (by kernel_rfl) fun xb1 => ?_)
      refine Xg.ops_op (by kernel_rfl) (Xg.opx_pure ((Value.slice (some b) n sc)) rfl (fun _ => by kernel_rfl) ?_)
      refine Xg.ops_row_ints 0 .u8 [] rfl rfl (by decide) ?_
      refine Xg.ops_op (by kernel_rfl) (Xg.opx_append_ints (kd := .u8) (yv := (Value.slice (some b) n sc)) (m := n) (xs := []) (elem := 5) 0 1 ys rfl (by kernel_rfl) (by kernel_rfl) (by kernel_rfl) (by kernel_rfl) (by first | rfl | assumption | omega | (simp; done) | (simp; omega)) (fun _ hS => Xg.reads_rd hr 1 rfl hS) (by first | omega | (simp only [List.length_nil, List.length_cons]; omega) | (simp; omega)) (by first | omega | (simp only [List.length_nil, List.length_cons]; omega) | (simp; omega)) fun xa1 xc1 => ?_)
      have xl1 : ([] ++ ys : List Int).length = ([] : List Int).length + n := by first | (simp; done) | (simp; omega)
      refine Xg.ops_op (by kernel_rfl) (Xg.opx_pure ((Value.slice xa1 ([] ++ ys).length xc1)) rfl (fun _ => by kernel_rfl) ?_)
      refine Xg.ops_nil ?_
      refine Xg.at_ret_ps (v := (Value.slice xa1 ([] ++ ys).length xc1)) [0, 1] [ints (5 : TypeId) IntKind.u8 xa1 xc1 ([] ++ ys), A] Go.Proofs.Tryd.func34 (fun _ => by kernel_rfl) (by kernel_rfl) (by kernel_rfl) ?_
      refine ⟨((xa1, xc1)), trivial, by kernel_rfl, by kernel_rfl⟩)

theorem clone_own_d (a : Option Addr) (c : Nat) (xs : List Int) (hb : xs.length ≤ 1000000) :
    Does Tryd.prog 34 [.slice a xs.length c] [bts a c xs] (RetE (fun x : Option Addr × Nat => True) (fun x => .slice x.1 xs.length x.2) (fun x => [bts x.1 x.2 xs, bts a c xs])) :=
  clone_d _ a _ c xs reads_own rfl hb

theorem clone_part_d (a : Option Addr) (c l : Nat) (xs : List Int) (hl : l ≤ xs.length) (hb : xs.length ≤ 1000000) :
    Does Tryd.prog 34 [.slice (subA a c l 1) (xs.length - l) (c - l)] [bts a c xs] (RetE (fun x : Option Addr × Nat => True) (fun x => .slice x.1 (xs.drop l).length x.2) (fun x => [bts x.1 x.2 (xs.drop l), bts a c xs])) := by
  have h := reads_ints_part (E := 5) (kd := .u8) (a := a) (c := c) (xs := xs) l xs.length hl (Nat.le_refl _)
  rw [List.take_of_length_le (by simp)] at h
  exact clone_d _ _ _ _ _ h (by simp) (by omega)

def endsP (σ : Po) : Po := { σ with sending := 0, shift := 255, line := bclr .u8 σ.line 128, requests := askI σ.requests 3 }
def endsX (x : Int) (xs : List Int) : List Int := (xs ++ [x]).drop ((xs ++ [x]).length - 256)

theorem ends_d (p : Nat) (σ : Po) (a : Option Addr) (c : Nat) (xs : List Int) (hl : xs.length ≤ 256) :
    Does Tryd.prog 60 [pt p] [PoS p σ a c xs, bts a c xs] (RetE (fun _ : Option Addr × Nat => True) (fun _ => .tuple #[]) (fun x => [PoS p (endsP σ) x.1 x.2 (endsX σ.sending xs), bts x.1 x.2 (endsX σ.sending xs)])) := by
  (focus
    refine Xg.spec_of Go.Proofs.Tryd.func60 rfl Go.Proofs.Tryd.ntmps60 fun g F => ?_)
  (focus
    refine Xg.at_seq ?_
    refine Xg.at_draw [9, 10, 13] [(4, [0, 1, 2, 3, 4, 5, 6, 7, 8, 9], Xg.CellIs (p) (((12 : Nat))) ((Value.slice a xs.length c))), (8, [0, 1, 2, 3, 4, 5, 6, 7, 8], Xg.CellIs (p) (((11 : Nat))) ((Value.int IntKind.u8 σ.sending)))] (by kernel_rfl) ?_
    refine Xg.any_pure ((Value.pointer (some (Addr.mk p (0 : Nat) none)))) 0 (by kernel_rfl) rfl (by kernel_rfl) (by kernel_rfl) (by kernel_rfl) (by kernel_rfl) rfl (fun _ => by kernel_rfl) ?_
    refine Xg.any_pure ((Value.pointer (some (Addr.mk p (0 : Nat) none)))) 1 (by kernel_rfl) rfl (by kernel_rfl) (by kernel_rfl) (by kernel_rfl) (by kernel_rfl) rfl (fun _ => by kernel_rfl) ?_
    refine Xg.any_pure ((Value.pointer (some (Addr.mk p (0 : Nat) none)))) 2 (by kernel_rfl) rfl (by kernel_rfl) (by kernel_rfl) (by kernel_rfl) (by kernel_rfl) rfl (fun _ => by kernel_rfl) ?_
    refine Xg.any_pure ((Value.pointer (some (Addr.mk p (12 : Nat) none)))) 3 (by kernel_rfl) rfl (by kernel_rfl) (by kernel_rfl) (by kernel_rfl) (by kernel_rfl) rfl (fun _ => by kernel_rfl) ?_
    refine Xg.any_reads (Value.slice a xs.length c) 4 0 (by kernel_rfl) rfl (by kernel_rfl) (by kernel_rfl) (by kernel_rfl) (by kernel_rfl) rfl rfl (by kernel_rfl) (Xg.cell_now (b := p) (off := ((12 : Nat))) 0 rfl (by kernel_rfl)) (fun _ h => Xg.run_load (by kernel_rfl) (by kernel_rfl) h) ?_
    refine Xg.any_pure ((Value.pointer (some (Addr.mk p (0 : Nat) none)))) 5 (by kernel_rfl) rfl (by kernel_rfl) (by kernel_rfl) (by kernel_rfl) (by kernel_rfl) rfl (fun _ => by kernel_rfl) ?_
    refine Xg.any_pure ((Value.pointer (some (Addr.mk p (0 : Nat) none)))) 6 (by kernel_rfl) rfl (by kernel_rfl) (by kernel_rfl) (by kernel_rfl) (by kernel_rfl) rfl (fun _ => by kernel_rfl) ?_
    refine Xg.any_pure ((Value.pointer (some (Addr.mk p (11 : Nat) none)))) 7 (by kernel_rfl) rfl (by kernel_rfl) (by kernel_rfl) (by kernel_rfl) (by kernel_rfl) rfl (fun _ => by kernel_rfl) ?_
    refine Xg.any_reads (Value.int IntKind.u8 σ.sending) 8 1 (by kernel_rfl) rfl (by kernel_rfl) (by kernel_rfl) (by kernel_rfl) (by kernel_rfl) rfl rfl (by kernel_rfl) (Xg.cell_now (b := p) (off := ((11 : Nat))) 0 rfl (by kernel_rfl)) (fun _ h => Xg.run_load (by kernel_rfl) (by kernel_rfl) h) ?_
    refine Xg.any_each [9] (by kernel_rfl) rfl ⟨?_, trivial⟩
    refine Xg.comes_act rfl (by kernel_rfl) (by kernel_rfl) (Xg.opx_bs (elem := 5) 1 [Value.int IntKind.u8 σ.sending] [Value.int IntKind.u8 σ.sending] (by kernel_rfl) (by kernel_rfl) (by decide) rfl (by kernel_rfl) (by kernel_rfl) (by kernel_rfl) (by kernel_rfl) fun xb1 => ?_)
    refine Xg.acts (Xg.owes_cell 1 rfl (by kernel_rfl) (Xg.owes_skip (by kernel_rfl) Xg.owes_nil)) ?_
    refine Xg.any_each [10] (by kernel_rfl) rfl ⟨?_, trivial⟩
    refine Xg.comes_act rfl (by kernel_rfl) (by kernel_rfl) (Xg.opx_append_ints (kd := .u8) (yv := (Value.slice (some (Addr.mk xb1 (0 : Nat) none)) (1 : Nat) (1 : Nat))) (m := ((1 : Nat))) (xs := xs) (elem := 5) 2 1 [σ.sending] rfl (by kernel_rfl) (by kernel_rfl) (by kernel_rfl) (by kernel_rfl) (by first | rfl | assumption | omega | (simp; done) | (simp; omega)) (fun _ hS => Xg.row_rd hS 0 rfl (by kernel_rfl)) (by first | omega | (simp only [List.length_nil, List.length_cons]; omega) | (simp; omega)) (by first | omega | (simp only [List.length_nil, List.length_cons]; omega) | (simp; omega)) fun xa1 xc1 => ?_)
    have xl1 : (xs ++ [σ.sending] : List Int).length = (xs : List Int).length + ((1 : Nat)) := by first | (simp; done) | (simp; omega)
    refine Xg.acts (Xg.owes_skip (by kernel_rfl) (Xg.owes_skip (by kernel_rfl) Xg.owes_nil)) ?_
    refine Xg.any_pure ((Value.pointer (some (Addr.mk p (0 : Nat) none)))) 11 (by kernel_rfl) rfl (by kernel_rfl) (by kernel_rfl) (by kernel_rfl) (by kernel_rfl) rfl (fun _ => by kernel_rfl) ?_
    refine Xg.any_pure ((Value.pointer (some (Addr.mk p (12 : Nat) none)))) 12 (by kernel_rfl) rfl (by kernel_rfl) (by kernel_rfl) (by kernel_rfl) (by kernel_rfl) rfl (fun _ => by kernel_rfl) ?_
    refine Xg.any_each [13] (by kernel_rfl) rfl ⟨?_, trivial⟩
    refine Xg.comes_act rfl (by kernel_rfl) (by kernel_rfl) (Xg.opx_store1 (off := 12) 1 (Value.slice xa1 (xs ++ [σ.sending]).length xc1) (by kernel_rfl) rfl (by kernel_rfl) (by kernel_rfl) (by kernel_rfl) (Nat.le_of_ble_eq_true (by kernel_rfl)) ?_)
    refine Xg.acts (Xg.owes_skip (by kernel_rfl) (Xg.owes_skip (by kernel_rfl) Xg.owes_nil)) ?_
    refine Xg.any_nil (by kernel_rfl) ?_
    refine Xg.at_seq ?_
    refine Xg.at_seq ?_
    refine Xg.at_region ?_
    refine Xg.ops_op (by kernel_rfl) (Xg.opx_pure ((Value.pointer (some (Addr.mk p (0 : Nat) none)))) rfl (fun _ => by kernel_rfl) ?_)
    refine Xg.ops_op (by kernel_rfl) (Xg.opx_pure ((Value.pointer (some (Addr.mk p (0 : Nat) none)))) rfl (fun _ => by kernel_rfl) ?_)
    refine Xg.ops_op (by kernel_rfl) (Xg.opx_pure ((Value.pointer (some (Addr.mk p (12 : Nat) none)))) rfl (fun _ => by kernel_rfl) ?_)
    refine Xg.ops_op (by kernel_rfl) (Xg.opx_load (b := p) (off := ((12 : Nat))) 1 (Value.slice xa1 (xs ++ [σ.sending]).length xc1) rfl (by kernel_rfl) (by kernel_rfl) (by kernel_rfl) ?_)
    refine Xg.ops_op (by kernel_rfl) (Xg.opx_pure ((Value.int IntKind.i64 (↑(xs ++ [σ.sending]).length : Int))) rfl (fun _ => by kernel_rfl) ?_)
    refine Xg.ops_op (by kernel_rfl) (Xg.opx_int .i64 (IntKind.wrap .i64 (((↑(xs ++ [σ.sending]).length : Int) - (256 : Int)))) rfl (fun _ => by kernel_rfl) (Xg.wrap_i64_in (by omega)) ?_)
    refine Xg.ops_op (by kernel_rfl) (Xg.opx_pure ((Value.int IntKind.i64 ((↑(xs ++ [σ.sending]).length : Int) - (256 : Int)))) rfl (fun _ => by kernel_rfl) ?_)
    refine Xg.ops_nil ?_
    refine Xg.at_seq ?_
    refine Xg.at_region ?_
    refine Xg.ops_op (by kernel_rfl) (Xg.opx_pure ((Value.int IntKind.i64 ((↑(xs ++ [σ.sending]).length : Int) - (256 : Int)))) rfl (fun _ => by kernel_rfl) ?_)
    refine Xg.ops_op (by kernel_rfl) (Xg.opx_pure (.bool (decide ((((↑(xs ++ [σ.sending]).length : Int) - (256 : Int)) : Int) > ((0 : Int))))) rfl (fun _ => by kernel_rfl) ?_)
    refine Xg.ops_nil ?_
    refine Xg.at_dec (p := ((↑(xs ++ [σ.sending]).length : Int) - (256 : Int) > (0 : Int))) (by kernel_rfl) (fun xh1 => ?_) (fun xh1 => ?_)
    refine Xg.at_region ?_
    refine Xg.ops_op (by kernel_rfl) (Xg.opx_pure ((Value.pointer (some (Addr.mk p (0 : Nat) none)))) rfl (fun _ => by kernel_rfl) ?_)
    refine Xg.ops_op (by kernel_rfl) (Xg.opx_pure ((Value.pointer (some (Addr.mk p (0 : Nat) none)))) rfl (fun _ => by kernel_rfl) ?_)
    refine Xg.ops_op (by kernel_rfl) (Xg.opx_pure ((Value.pointer (some (Addr.mk p (0 : Nat) none)))) rfl (fun _ => by kernel_rfl) ?_)
    refine Xg.ops_op (by kernel_rfl) (Xg.opx_pure ((Value.pointer (some (Addr.mk p (12 : Nat) none)))) rfl (fun _ => by kernel_rfl) ?_)
    refine Xg.ops_op (by kernel_rfl) (Xg.opx_load (b := p) (off := ((12 : Nat))) 1 (Value.slice xa1 (xs ++ [σ.sending]).length xc1) rfl (by kernel_rfl) (by kernel_rfl) (by kernel_rfl) ?_)
    refine Xg.ops_op (by kernel_rfl) (Xg.opx_pure ((Value.int IntKind.i64 ((↑(xs ++ [σ.sending]).length : Int) - (256 : Int)))) rfl (fun _ => by kernel_rfl) ?_)
    refine Xg.ops_op (by kernel_rfl) (Xg.opx_run (.slice (Xg.subA xa1 xc1 (((↑(xs ++ [σ.sending]).length : Int) - (256 : Int)).toNat) 1) (((xs ++ [σ.sending]).length) - (((↑(xs ++ [σ.sending]).length : Int) - (256 : Int)).toNat)) (xc1 - (((↑(xs ++ [σ.sending]).length : Int) - (256 : Int)).toNat))) rfl (Xg.run_sl_lo (elem := 5) (a := xa1) (c := xc1) (len := ((xs ++ [σ.sending]).length)) (k1 := .i64) (e1 := ((↑(xs ++ [σ.sending]).length : Int) - (256 : Int))) 1 (((↑(xs ++ [σ.sending]).length : Int) - (256 : Int)).toNat) (by kernel_rfl) (by kernel_rfl) (by kernel_rfl) (by kernel_rfl) (by omega) (by omega)) ?_)
    refine Xg.ops_op (by kernel_rfl) (Xg.opx_callE [2] (fun _ => by kernel_rfl) (@Go.Proofs.YtncdmccdclhokaaDoor.clone_part_d (xa1) (xc1) ((((↑(xs ++ [σ.sending]).length : Int) - (256 : Int)).toNat)) ((xs ++ [σ.sending])) (by omega) (by omega)) (by kernel_rfl) (by kernel_rfl) fun xx1 xh2 => ?_)
    try dsimp only at xh2
    refine Xg.ops_op (by kernel_rfl) (Xg.opx_pure ((Value.pointer (some (Addr.mk p (0 : Nat) none)))) rfl (fun _ => by kernel_rfl) ?_)
    refine Xg.ops_op (by kernel_rfl) (Xg.opx_pure ((Value.pointer (some (Addr.mk p (12 : Nat) none)))) rfl (fun _ => by kernel_rfl) ?_)
    refine Xg.ops_op (by kernel_rfl) (Xg.opx_store1 (off := 12) 3 (Value.slice xx1.fst (List.drop ((↑(xs ++ [σ.sending]).length : Int) - (256 : Int)).toNat (xs ++ [σ.sending])).length xx1.snd) (by kernel_rfl) rfl (by kernel_rfl) (by kernel_rfl) (by kernel_rfl) (Nat.le_of_ble_eq_true (by kernel_rfl)) ?_)
    refine Xg.ops_nil ?_
    refine Xg.at_seq ?_
    refine Xg.at_region ?_
    refine Xg.ops_op (by kernel_rfl) (Xg.opx_pure ((Value.pointer (some (Addr.mk p (0 : Nat) none)))) rfl (fun _ => by kernel_rfl) ?_)
    refine Xg.ops_op (by kernel_rfl) (Xg.opx_pure ((Value.pointer (some (Addr.mk p (0 : Nat) none)))) rfl (fun _ => by kernel_rfl) ?_)
    refine Xg.ops_op (by kernel_rfl) (Xg.opx_pure ((Value.pointer (some (Addr.mk p (0 : Nat) none)))) rfl (fun _ => by kernel_rfl) ?_)
    refine Xg.ops_op (by kernel_rfl) (Xg.opx_pure ((Value.pointer (some (Addr.mk p (11 : Nat) none)))) rfl (fun _ => by kernel_rfl) ?_)
    refine Xg.ops_op (by kernel_rfl) (Xg.opx_store1 (off := 11) 3 (Value.int IntKind.u8 (0 : Int)) (by kernel_rfl) rfl (by kernel_rfl) (by kernel_rfl) (by kernel_rfl) (Nat.le_of_ble_eq_true (by kernel_rfl)) ?_)
    refine Xg.ops_op (by kernel_rfl) (Xg.opx_pure ((Value.pointer (some (Addr.mk p (0 : Nat) none)))) rfl (fun _ => by kernel_rfl) ?_)
    refine Xg.ops_op (by kernel_rfl) (Xg.opx_pure ((Value.pointer (some (Addr.mk p (2 : Nat) none)))) rfl (fun _ => by kernel_rfl) ?_)
    refine Xg.ops_op (by kernel_rfl) (Xg.opx_store1 (off := 2) 3 (Value.int IntKind.u8 (255 : Int)) (by kernel_rfl) rfl (by kernel_rfl) (by kernel_rfl) (by kernel_rfl) (Nat.le_of_ble_eq_true (by kernel_rfl)) ?_)
    refine Xg.ops_nil ?_
    refine Xg.at_seq ?_
    refine Xg.at_region ?_
    refine Xg.ops_op (by kernel_rfl) (Xg.opx_pure ((Value.pointer (some (Addr.mk p (0 : Nat) none)))) rfl (fun _ => by kernel_rfl) ?_)
    refine Xg.ops_op (by kernel_rfl) (Xg.opx_pure ((Value.pointer (some (Addr.mk p (0 : Nat) none)))) rfl (fun _ => by kernel_rfl) ?_)
    refine Xg.ops_op (by kernel_rfl) (Xg.opx_pure ((Value.pointer (some (Addr.mk p (3 : Nat) none)))) rfl (fun _ => by kernel_rfl) ?_)
    refine Xg.ops_op (by kernel_rfl) (Xg.opx_load (b := p) (off := ((3 : Nat))) 3 (Value.int IntKind.u8 σ.line) rfl (by kernel_rfl) (by kernel_rfl) (by kernel_rfl) ?_)
    refine Xg.ops_op (by kernel_rfl) (Xg.opx_pure (.int .u8 (Xg.bclr .u8 (σ.line) (((128 : Int))))) rfl (fun _ => by kernel_rfl) ?_)
    refine Xg.ops_op (by kernel_rfl) (Xg.opx_pure ((Value.pointer (some (Addr.mk p (0 : Nat) none)))) rfl (fun _ => by kernel_rfl) ?_)
    refine Xg.ops_op (by kernel_rfl) (Xg.opx_pure ((Value.pointer (some (Addr.mk p (3 : Nat) none)))) rfl (fun _ => by kernel_rfl) ?_)
    refine Xg.ops_op (by kernel_rfl) (Xg.opx_store1 (off := 3) 3 (Value.int IntKind.u8 (bclr IntKind.u8 σ.line (128 : Int))) (by kernel_rfl) rfl (by kernel_rfl) (by kernel_rfl) (by kernel_rfl) (Nat.le_of_ble_eq_true (by kernel_rfl)) ?_)
    refine Xg.ops_nil ?_
    refine Xg.at_region ?_
    refine Xg.ops_op (by kernel_rfl) (Xg.opx_pure ((Value.pointer (some (Addr.mk p (0 : Nat) none)))) rfl (fun _ => by kernel_rfl) ?_)
    refine Xg.ops_op (by kernel_rfl) (Xg.opx_call1 [3] (fun _ => by kernel_rfl) (@Go.Proofs.YtncdmccdclhokaaDoor.ask_d (p) ((Po.mk σ.buttons σ.rows (255 : Int) (bclr IntKind.u8 σ.line (128 : Int)) σ.counter σ.timer σ.again σ.control σ.requests σ.alarm σ.transfer (0 : Int))) ((Value.slice xx1.fst (List.drop ((↑(xs ++ [σ.sending]).length : Int) - (256 : Int)).toNat (xs ++ [σ.sending])).length xx1.snd)) (((3 : Int))) (by omega)) (by kernel_rfl) (by kernel_rfl) ?_)
    refine Xg.ops_nil ?_
    refine Xg.at_end_ps (v := (Value.tuple #[])) [0, 1] [PoR p (Po.mk σ.buttons σ.rows (255 : Int) (bclr IntKind.u8 σ.line (128 : Int)) σ.counter σ.timer σ.again σ.control (askI σ.requests (3 : Int)) σ.alarm σ.transfer (0 : Int)) (Value.slice xx1.fst (List.drop ((↑(xs ++ [σ.sending]).length : Int) - (256 : Int)).toNat (xs ++ [σ.sending])).length xx1.snd), bts xx1.fst xx1.snd (List.drop ((↑(xs ++ [σ.sending]).length : Int) - (256 : Int)).toNat (xs ++ [σ.sending]))] Go.Proofs.Tryd.func60 (fun _ => by kernel_rfl) (by kernel_rfl) (by kernel_rfl) ?_
    refine ⟨((xx1.fst, xx1.snd)), trivial, by kernel_rfl, ?_⟩
    rotate_left
    refine Xg.at_skip ?_
    refine Xg.at_seq ?_
    refine Xg.at_region ?_
    refine Xg.ops_op (by kernel_rfl) (Xg.opx_pure ((Value.pointer (some (Addr.mk p (0 : Nat) none)))) rfl (fun _ => by kernel_rfl) ?_)
    refine Xg.ops_op (by kernel_rfl) (Xg.opx_pure ((Value.pointer (some (Addr.mk p (0 : Nat) none)))) rfl (fun _ => by kernel_rfl) ?_)
    refine Xg.ops_op (by kernel_rfl) (Xg.opx_pure ((Value.pointer (some (Addr.mk p (0 : Nat) none)))) rfl (fun _ => by kernel_rfl) ?_)
    refine Xg.ops_op (by kernel_rfl) (Xg.opx_pure ((Value.pointer (some (Addr.mk p (11 : Nat) none)))) rfl (fun _ => by kernel_rfl) ?_)
    refine Xg.ops_op (by kernel_rfl) (Xg.opx_store1 (off := 11) 1 (Value.int IntKind.u8 (0 : Int)) (by kernel_rfl) rfl (by kernel_rfl) (by kernel_rfl) (by kernel_rfl) (Nat.le_of_ble_eq_true (by kernel_rfl)) ?_)
    refine Xg.ops_op (by kernel_rfl) (Xg.opx_pure ((Value.pointer (some (Addr.mk p (0 : Nat) none)))) rfl (fun _ => by kernel_rfl) ?_)
    refine Xg.ops_op (by kernel_rfl) (Xg.opx_pure ((Value.pointer (some (Addr.mk p (2 : Nat) none)))) rfl (fun _ => by kernel_rfl) ?_)
    refine Xg.ops_op (by kernel_rfl) (Xg.opx_store1 (off := 2) 1 (Value.int IntKind.u8 (255 : Int)) (by kernel_rfl) rfl (by kernel_rfl) (by kernel_rfl) (by kernel_rfl) (Nat.le_of_ble_eq_true (by kernel_rfl)) ?_)
    refine Xg.ops_nil ?_
    refine Xg.at_seq ?_
    refine Xg.at_region ?_
    refine Xg.ops_op (by kernel_rfl) (Xg.opx_pure ((Value.pointer (some (Addr.mk p (0 : Nat) none)))) rfl (fun _ => by kernel_rfl) ?_)
    refine Xg.ops_op (by kernel_rfl) (Xg.opx_pure ((Value.pointer (some (Addr.mk p (0 : Nat) none)))) rfl (fun _ => by kernel_rfl) ?_)
    refine Xg.ops_op (by kernel_rfl) (Xg.opx_pure ((Value.pointer (some (Addr.mk p (3 : Nat) none)))) rfl (fun _ => by kernel_rfl) ?_)
    refine Xg.ops_op (by kernel_rfl) (Xg.opx_load (b := p) (off := ((3 : Nat))) 1 (Value.int IntKind.u8 σ.line) rfl (by kernel_rfl) (by kernel_rfl) (by kernel_rfl) ?_)
    refine Xg.ops_op (by kernel_rfl) (Xg.opx_pure (.int .u8 (Xg.bclr .u8 (σ.line) (((128 : Int))))) rfl (fun _ => by kernel_rfl) ?_)
    refine Xg.ops_op (by kernel_rfl) (Xg.opx_pure ((Value.pointer (some (Addr.mk p (0 : Nat) none)))) rfl (fun _ => by kernel_rfl) ?_)
    refine Xg.ops_op (by kernel_rfl) (Xg.opx_pure ((Value.pointer (some (Addr.mk p (3 : Nat) none)))) rfl (fun _ => by kernel_rfl) ?_)
    refine Xg.ops_op (by kernel_rfl) (Xg.opx_store1 (off := 3) 1 (Value.int IntKind.u8 (bclr IntKind.u8 σ.line (128 : Int))) (by kernel_rfl) rfl (by kernel_rfl) (by kernel_rfl) (by kernel_rfl) (Nat.le_of_ble_eq_true (by kernel_rfl)) ?_)
    refine Xg.ops_nil ?_
    refine Xg.at_region ?_
    refine Xg.ops_op (by kernel_rfl) (Xg.opx_pure ((Value.pointer (some (Addr.mk p (0 : Nat) none)))) rfl (fun _ => by kernel_rfl) ?_)
    refine Xg.ops_op (by kernel_rfl) (Xg.opx_call1 [1] (fun _ => by kernel_rfl) (@Go.Proofs.YtncdmccdclhokaaDoor.ask_d (p) ((Po.mk σ.buttons σ.rows (255 : Int) (bclr IntKind.u8 σ.line (128 : Int)) σ.counter σ.timer σ.again σ.control σ.requests σ.alarm σ.transfer (0 : Int))) ((Value.slice xa1 (xs ++ [σ.sending]).length xc1)) (((3 : Int))) (by omega)) (by kernel_rfl) (by kernel_rfl) ?_)
    refine Xg.ops_nil ?_
    refine Xg.at_end_ps (v := (Value.tuple #[])) [0, 2] [PoR p (Po.mk σ.buttons σ.rows (255 : Int) (bclr IntKind.u8 σ.line (128 : Int)) σ.counter σ.timer σ.again σ.control (askI σ.requests (3 : Int)) σ.alarm σ.transfer (0 : Int)) (Value.slice xa1 (xs ++ [σ.sending]).length xc1), ints (5 : TypeId) IntKind.u8 xa1 xc1 (xs ++ [σ.sending])] Go.Proofs.Tryd.func60 (fun _ => by kernel_rfl) (by kernel_rfl) (by kernel_rfl) ?_
    refine ⟨((xa1, xc1)), trivial, by kernel_rfl, ?_⟩
    rotate_left)
  · have e : endsX σ.sending xs = List.drop ((↑(xs ++ [σ.sending]).length : Int) - 256).toNat (xs ++ [σ.sending]) := by unfold endsX; congr 1; omega
    rw [e]; rfl
  · have e : endsX σ.sending xs = xs ++ [σ.sending] := by
      unfold endsX
      rw [show (xs ++ [σ.sending]).length - 256 = 0 from by omega]; rfl
    rw [e]; rfl

/-- One clock: the alarm, then the counter, then what is sent. -/
def alarmed (σ : Po) : Po := if σ.alarm > 0 then (if σ.alarm - 1 = 0 then { σ with alarm := σ.alarm - 1, timer := σ.again, requests := askI σ.requests 2 } else { σ with alarm := σ.alarm - 1 }) else σ
def counted (σ : Po) : Po := driven (driveB σ) { σ with counter := (σ.counter + 1) % 65536 }
theorem driven_tr (b : Bool) (σ : Po) : (driven b σ).transfer = σ.transfer := by unfold driven ticked; split <;> (try split) <;> (try split) <;> rfl
theorem driven_se (b : Bool) (σ : Po) : (driven b σ).sending = σ.sending := by unfold driven ticked; split <;> (try split) <;> (try split) <;> rfl
theorem alarmed_tr (σ : Po) : (alarmed σ).transfer = σ.transfer := by unfold alarmed; split <;> (try split) <;> rfl
theorem alarmed_se (σ : Po) : (alarmed σ).sending = σ.sending := by unfold alarmed; split <;> (try split) <;> rfl
def clockP (σ : Po) : Po := if σ.transfer > 0 then (if σ.transfer - 1 = 0 then endsP { counted (alarmed σ) with transfer := σ.transfer - 1 } else { counted (alarmed σ) with transfer := σ.transfer - 1 }) else counted (alarmed σ)
def clockX (σ : Po) (xs : List Int) : List Int := if σ.transfer > 0 then (if σ.transfer - 1 = 0 then endsX σ.sending xs else xs) else xs

theorem driving_clock_e (bp p : Nat) (σ : Po) (s : Value) :
    Does Tryd.prog 58 [pt p, .func (.func 59) #[] #[pt bp]] [PoR p σ s, box bp p, (Drv te)]
      (RetE (fun σ' : Po => σ' = counted σ ∧ σ'.transfer = σ.transfer ∧ σ'.sending = σ.sending) (fun _ => .tuple #[]) (fun σ' => [PoR p σ' s, box bp p, (Drv te)])) :=
  (driving_clock_d bp p σ s).mono fun v ps ⟨e1, e2⟩ => ⟨counted σ, ⟨rfl, driven_tr _ _, driven_se _ _⟩, e1, e2⟩

theorem clock_d (p : Nat) (σ : Po) (hσ : σ.Wf) (a : Option Addr) (c : Nat) (xs : List Int) (hl : xs.length ≤ 256) :
    Does Tryd.prog 31 [pt p] [PoS p σ a c xs, bts a c xs, (Drv te)] (RetE (fun x : Po × Option Addr × Nat => x.1 = clockP σ) (fun _ => .tuple #[]) (fun x => [PoS p x.1 x.2.1 x.2.2 (clockX σ xs), bts x.2.1 x.2.2 (clockX σ xs), (Drv te)])) := by
  have h1 := hσ.alarm
  have h2 := hσ.transfer
  have h3 := hσ.again
  clear hσ
  (focus
    refine Xg.spec_of Go.Proofs.Tryd.func31 rfl Go.Proofs.Tryd.ntmps31 fun g F => ?_)
  (focus
    refine Xg.at_seq ?_
    refine Xg.at_region ?_
    refine Xg.ops_op (by kernel_rfl) (Xg.opx_box (v := (Value.pointer (some (Addr.mk p (0 : Nat) none)))) [(Value.pointer (some (Addr.mk p (0 : Nat) none)))] (by kernel_rfl) (by kernel_rfl) fun xb1 => ?_)
    refine Xg.ops_nil ?_
    refine Xg.at_seq ?_
    refine Xg.at_seq ?_
    refine Xg.at_region ?_
    refine Xg.ops_op (by kernel_rfl) (Xg.opx_load (b := xb1) (off := ((0 : Nat))) 0 (Value.pointer (some (Addr.mk p (0 : Nat) none))) rfl (by kernel_rfl) (by kernel_rfl) (by kernel_rfl) ?_)
    refine Xg.ops_op (by kernel_rfl) (Xg.opx_pure ((Value.pointer (some (Addr.mk p (0 : Nat) none)))) rfl (fun _ => by kernel_rfl) ?_)
    refine Xg.ops_op (by kernel_rfl) (Xg.opx_pure ((Value.pointer (some (Addr.mk p (9 : Nat) none)))) rfl (fun _ => by kernel_rfl) ?_)
    refine Xg.ops_op (by kernel_rfl) (Xg.opx_load (b := p) (off := ((9 : Nat))) 1 (Value.int IntKind.i64 σ.alarm) rfl (by kernel_rfl) (by kernel_rfl) (by kernel_rfl) ?_)
    refine Xg.ops_op (by kernel_rfl) (Xg.opx_pure (.bool (decide ((σ.alarm : Int) > ((0 : Int))))) rfl (fun _ => by kernel_rfl) ?_)
    refine Xg.ops_nil ?_
    refine Xg.at_dec (p := (σ.alarm > (0 : Int))) (by kernel_rfl) (fun xh1 => ?_) (fun xh1 => ?_)
    refine Xg.at_seq ?_
    refine Xg.at_region ?_
    refine Xg.ops_op (by kernel_rfl) (Xg.opx_load (b := xb1) (off := ((0 : Nat))) 0 (Value.pointer (some (Addr.mk p (0 : Nat) none))) rfl (by kernel_rfl) (by kernel_rfl) (by kernel_rfl) ?_)
    refine Xg.ops_op (by kernel_rfl) (Xg.opx_pure ((Value.pointer (some (Addr.mk p (0 : Nat) none)))) rfl (fun _ => by kernel_rfl) ?_)
    refine Xg.ops_op (by kernel_rfl) (Xg.opx_pure ((Value.pointer (some (Addr.mk p (9 : Nat) none)))) rfl (fun _ => by kernel_rfl) ?_)
    refine Xg.ops_op (by kernel_rfl) (Xg.opx_load (b := p) (off := ((9 : Nat))) 1 (Value.int IntKind.i64 σ.alarm) rfl (by kernel_rfl) (by kernel_rfl) (by kernel_rfl) ?_)
    refine Xg.ops_op (by kernel_rfl) (Xg.opx_int .i64 (IntKind.wrap .i64 ((σ.alarm - (1 : Int)))) rfl (fun _ => by kernel_rfl) (Xg.wrap_i64_in (by omega)) ?_)
    refine Xg.ops_op (by kernel_rfl) (Xg.opx_pure ((Value.pointer (some (Addr.mk p (0 : Nat) none)))) rfl (fun _ => by kernel_rfl) ?_)
    refine Xg.ops_op (by kernel_rfl) (Xg.opx_pure ((Value.pointer (some (Addr.mk p (9 : Nat) none)))) rfl (fun _ => by kernel_rfl) ?_)
    refine Xg.ops_op (by kernel_rfl) (Xg.opx_store1 (off := 9) 1 (Value.int IntKind.i64 (σ.alarm - (1 : Int))) (by kernel_rfl) rfl (by kernel_rfl) (by kernel_rfl) (by kernel_rfl) (Nat.le_of_ble_eq_true (by kernel_rfl)) ?_)
    refine Xg.ops_nil ?_
    refine Xg.at_seq ?_
    refine Xg.at_region ?_
    refine Xg.ops_op (by kernel_rfl) (Xg.opx_load (b := xb1) (off := ((0 : Nat))) 0 (Value.pointer (some (Addr.mk p (0 : Nat) none))) rfl (by kernel_rfl) (by kernel_rfl) (by kernel_rfl) ?_)
    refine Xg.ops_op (by kernel_rfl) (Xg.opx_pure ((Value.pointer (some (Addr.mk p (0 : Nat) none)))) rfl (fun _ => by kernel_rfl) ?_)
    refine Xg.ops_op (by kernel_rfl) (Xg.opx_pure ((Value.pointer (some (Addr.mk p (9 : Nat) none)))) rfl (fun _ => by kernel_rfl) ?_)
    refine Xg.ops_op (by kernel_rfl) (Xg.opx_load (b := p) (off := ((9 : Nat))) 1 (Value.int IntKind.i64 (σ.alarm - (1 : Int))) rfl (by kernel_rfl) (by kernel_rfl) (by kernel_rfl) ?_)
    refine Xg.ops_op (by kernel_rfl) (Xg.opx_pure (.bool (decide (((σ.alarm - (1 : Int)) : Int) = ((0 : Int))))) rfl (fun _ => by kernel_rfl) ?_)
    refine Xg.ops_nil ?_
    refine Xg.at_dec (p := (σ.alarm - (1 : Int) = (0 : Int))) (by kernel_rfl) (fun xh2 => ?_) (fun xh2 => ?_)
    refine Xg.at_seq ?_
    refine Xg.at_draw [7] [(0, [0, 1, 2, 3, 4], Xg.CellIs (xb1) (((0 : Nat))) ((Value.pointer (some (Addr.mk p (0 : Nat) none))))), (1, [0, 1], Xg.CellIs (xb1) (((0 : Nat))) ((Value.pointer (some (Addr.mk p (0 : Nat) none))))), (4, [0, 1, 2, 3, 4], Xg.CellIs (p) (((6 : Nat))) ((Value.int IntKind.u8 σ.again)))] (by kernel_rfl) ?_
    refine Xg.any_reads (Value.pointer (some (Addr.mk p (0 : Nat) none))) 0 0 (by kernel_rfl) rfl (by kernel_rfl) (by kernel_rfl) (by kernel_rfl) (by kernel_rfl) rfl rfl (by kernel_rfl) (Xg.cell_now (b := xb1) (off := ((0 : Nat))) 0 rfl (by kernel_rfl)) (fun _ h => Xg.run_load (by kernel_rfl) (by kernel_rfl) h) ?_
    refine Xg.any_reads (Value.pointer (some (Addr.mk p (0 : Nat) none))) 1 1 (by kernel_rfl) rfl (by kernel_rfl) (by kernel_rfl) (by kernel_rfl) (by kernel_rfl) rfl rfl (by kernel_rfl) (Xg.cell_now (b := xb1) (off := ((0 : Nat))) 0 rfl (by kernel_rfl)) (fun _ h => Xg.run_load (by kernel_rfl) (by kernel_rfl) h) ?_
    refine Xg.any_pure ((Value.pointer (some (Addr.mk p (0 : Nat) none)))) 2 (by kernel_rfl) rfl (by kernel_rfl) (by kernel_rfl) (by kernel_rfl) (by kernel_rfl) rfl (fun _ => by kernel_rfl) ?_
    refine Xg.any_pure ((Value.pointer (some (Addr.mk p (6 : Nat) none)))) 3 (by kernel_rfl) rfl (by kernel_rfl) (by kernel_rfl) (by kernel_rfl) (by kernel_rfl) rfl (fun _ => by kernel_rfl) ?_
    refine Xg.any_reads (Value.int IntKind.u8 σ.again) 4 2 (by kernel_rfl) rfl (by kernel_rfl) (by kernel_rfl) (by kernel_rfl) (by kernel_rfl) rfl rfl (by kernel_rfl) (Xg.cell_now (b := p) (off := ((6 : Nat))) 1 rfl (by kernel_rfl)) (fun _ h => Xg.run_load (by kernel_rfl) (by kernel_rfl) h) ?_
    refine Xg.any_pure ((Value.pointer (some (Addr.mk p (0 : Nat) none)))) 5 (by kernel_rfl) rfl (by kernel_rfl) (by kernel_rfl) (by kernel_rfl) (by kernel_rfl) rfl (fun _ => by kernel_rfl) ?_
    refine Xg.any_pure ((Value.pointer (some (Addr.mk p (5 : Nat) none)))) 6 (by kernel_rfl) rfl (by kernel_rfl) (by kernel_rfl) (by kernel_rfl) (by kernel_rfl) rfl (fun _ => by kernel_rfl) ?_
    refine Xg.any_each [7] (by kernel_rfl) rfl ⟨?_, trivial⟩
    refine Xg.comes_act rfl (by kernel_rfl) (by kernel_rfl) (Xg.opx_store1 (off := 5) 1 (Value.int IntKind.u8 σ.again) (by kernel_rfl) rfl (by kernel_rfl) (by kernel_rfl) (by kernel_rfl) (Nat.le_of_ble_eq_true (by kernel_rfl)) ?_)
    refine Xg.acts (Xg.owes_skip (by kernel_rfl) (Xg.owes_skip (by kernel_rfl) (Xg.owes_skip (by kernel_rfl) Xg.owes_nil))) ?_
    refine Xg.any_nil (by kernel_rfl) ?_
    refine Xg.at_region ?_
    refine Xg.ops_op (by kernel_rfl) (Xg.opx_load (b := xb1) (off := ((0 : Nat))) 0 (Value.pointer (some (Addr.mk p (0 : Nat) none))) rfl (by kernel_rfl) (by kernel_rfl) (by kernel_rfl) ?_)
    refine Xg.ops_op (by kernel_rfl) (Xg.opx_call1 [1] (fun _ => by kernel_rfl) (@Go.Proofs.YtncdmccdclhokaaDoor.ask_d (p) ((Po.mk σ.buttons σ.rows σ.shift σ.line σ.counter σ.again σ.again σ.control σ.requests (σ.alarm - (1 : Int)) σ.transfer σ.sending)) ((Value.slice a xs.length c)) (((2 : Int))) (by omega)) (by kernel_rfl) (by kernel_rfl) ?_)
    refine Xg.ops_nil ?_
    refine Xg.at_seq ?_
    refine Xg.at_region ?_
    refine Xg.ops_op (by kernel_rfl) (Xg.opx_load (b := xb1) (off := ((0 : Nat))) 1 (Value.pointer (some (Addr.mk p (0 : Nat) none))) rfl (by kernel_rfl) (by kernel_rfl) (by kernel_rfl) ?_)
    refine Xg.ops_op (by kernel_rfl) (Xg.opx_pure ((Value.func (Fn.func (59 : Nat)) #[] #[Value.pointer (some (Addr.mk xb1 (0 : Nat) none))])) rfl (fun _ => by kernel_rfl) ?_)
    refine Xg.ops_op (by kernel_rfl) (Xg.opx_callE [0, 1, 3] (fun _ => by kernel_rfl) (@Go.Proofs.YtncdmccdclhokaaDoor.driving_clock_e (te) (xb1) (p) ((Po.mk σ.buttons σ.rows σ.shift σ.line σ.counter σ.again σ.again σ.control (askI σ.requests (2 : Int)) (σ.alarm - (1 : Int)) σ.transfer σ.sending)) ((Value.slice a xs.length c))) (by kernel_rfl) (by kernel_rfl) fun xx1 xh3 => ?_)
    try dsimp only at xh3
    refine Xg.ops_nil ?_
    refine Xg.at_seq ?_
    refine Xg.at_region ?_
    refine Xg.ops_op (by kernel_rfl) (Xg.opx_load (b := xb1) (off := ((0 : Nat))) 1 (Value.pointer (some (Addr.mk p (0 : Nat) none))) rfl (by kernel_rfl) (by kernel_rfl) (by kernel_rfl) ?_)
    refine Xg.ops_op (by kernel_rfl) (Xg.opx_pure ((Value.pointer (some (Addr.mk p (0 : Nat) none)))) rfl (fun _ => by kernel_rfl) ?_)
    refine Xg.ops_op (by kernel_rfl) (Xg.opx_pure ((Value.pointer (some (Addr.mk p (10 : Nat) none)))) rfl (fun _ => by kernel_rfl) ?_)
    refine Xg.ops_op (by kernel_rfl) (Xg.opx_load (b := p) (off := ((10 : Nat))) 0 (Value.int IntKind.i64 xx1.transfer) rfl (by kernel_rfl) (by kernel_rfl) (by kernel_rfl) ?_)
    refine Xg.ops_op (by kernel_rfl) (Xg.opx_pure (.bool (decide ((xx1.transfer : Int) > ((0 : Int))))) rfl (fun _ => by kernel_rfl) ?_)
    refine Xg.ops_nil ?_
    refine Xg.at_dec (p := (xx1.transfer > (0 : Int))) (by kernel_rfl) (fun xh4 => ?_) (fun xh4 => ?_)
    refine Xg.at_seq ?_
    refine Xg.at_region ?_
    refine Xg.ops_op (by kernel_rfl) (Xg.opx_load (b := xb1) (off := ((0 : Nat))) 1 (Value.pointer (some (Addr.mk p (0 : Nat) none))) rfl (by kernel_rfl) (by kernel_rfl) (by kernel_rfl) ?_)
    refine Xg.ops_op (by kernel_rfl) (Xg.opx_pure ((Value.pointer (some (Addr.mk p (0 : Nat) none)))) rfl (fun _ => by kernel_rfl) ?_)
    refine Xg.ops_op (by kernel_rfl) (Xg.opx_pure ((Value.pointer (some (Addr.mk p (10 : Nat) none)))) rfl (fun _ => by kernel_rfl) ?_)
    refine Xg.ops_op (by kernel_rfl) (Xg.opx_load (b := p) (off := ((10 : Nat))) 0 (Value.int IntKind.i64 xx1.transfer) rfl (by kernel_rfl) (by kernel_rfl) (by kernel_rfl) ?_)
    refine Xg.ops_op (by kernel_rfl) (Xg.opx_int .i64 (IntKind.wrap .i64 ((xx1.transfer - (1 : Int)))) rfl (fun _ => by kernel_rfl) (Xg.wrap_i64_in (by omega)) ?_)
    refine Xg.ops_op (by kernel_rfl) (Xg.opx_pure ((Value.pointer (some (Addr.mk p (0 : Nat) none)))) rfl (fun _ => by kernel_rfl) ?_)
    refine Xg.ops_op (by kernel_rfl) (Xg.opx_pure ((Value.pointer (some (Addr.mk p (10 : Nat) none)))) rfl (fun _ => by kernel_rfl) ?_)
    refine Xg.ops_op (by kernel_rfl) (Xg.opx_store1 (off := 10) 0 (Value.int IntKind.i64 (xx1.transfer - (1 : Int))) (by kernel_rfl) rfl (by kernel_rfl) (by kernel_rfl) (by kernel_rfl) (Nat.le_of_ble_eq_true (by kernel_rfl)) ?_)
    refine Xg.ops_nil ?_
    refine Xg.at_seq ?_
    refine Xg.at_region ?_
    refine Xg.ops_op (by kernel_rfl) (Xg.opx_load (b := xb1) (off := ((0 : Nat))) 1 (Value.pointer (some (Addr.mk p (0 : Nat) none))) rfl (by kernel_rfl) (by kernel_rfl) (by kernel_rfl) ?_)
    refine Xg.ops_op (by kernel_rfl) (Xg.opx_pure ((Value.pointer (some (Addr.mk p (0 : Nat) none)))) rfl (fun _ => by kernel_rfl) ?_)
    refine Xg.ops_op (by kernel_rfl) (Xg.opx_pure ((Value.pointer (some (Addr.mk p (10 : Nat) none)))) rfl (fun _ => by kernel_rfl) ?_)
    refine Xg.ops_op (by kernel_rfl) (Xg.opx_load (b := p) (off := ((10 : Nat))) 0 (Value.int IntKind.i64 (xx1.transfer - (1 : Int))) rfl (by kernel_rfl) (by kernel_rfl) (by kernel_rfl) ?_)
    refine Xg.ops_op (by kernel_rfl) (Xg.opx_pure (.bool (decide (((xx1.transfer - (1 : Int)) : Int) = ((0 : Int))))) rfl (fun _ => by kernel_rfl) ?_)
    refine Xg.ops_nil ?_
    refine Xg.at_dec (p := (xx1.transfer - (1 : Int) = (0 : Int))) (by kernel_rfl) (fun xh5 => ?_) (fun xh5 => ?_)
    refine Xg.at_region ?_
    refine Xg.ops_op (by kernel_rfl) (Xg.opx_load (b := xb1) (off := ((0 : Nat))) 1 (Value.pointer (some (Addr.mk p (0 : Nat) none))) rfl (by kernel_rfl) (by kernel_rfl) (by kernel_rfl) ?_)
    refine Xg.ops_op (by kernel_rfl) (Xg.opx_callE [0, 3] (fun _ => by kernel_rfl) (@Go.Proofs.YtncdmccdclhokaaDoor.ends_d (p) ((Po.mk xx1.buttons xx1.rows xx1.shift xx1.line xx1.counter xx1.timer xx1.again xx1.control xx1.requests xx1.alarm (xx1.transfer - (1 : Int)) xx1.sending)) (a) (c) (xs) (by omega)) (by kernel_rfl) (by kernel_rfl) fun xx2 xh6 => ?_)
    try dsimp only at xh6
    refine Xg.ops_nil ?_
    refine Xg.at_end_ps (v := (Value.tuple #[])) [0, 1, 3] [PoS p (endsP (Po.mk xx1.buttons xx1.rows xx1.shift xx1.line xx1.counter xx1.timer xx1.again xx1.control xx1.requests xx1.alarm (xx1.transfer - (1 : Int)) xx1.sending)) xx2.fst xx2.snd (endsX xx1.sending xs), bts xx2.fst xx2.snd (endsX xx1.sending xs), (Drv te)] Go.Proofs.Tryd.func31 (fun _ => by kernel_rfl) (by kernel_rfl) (by kernel_rfl) ?_
    refine ⟨((Po.mk (endsP (Po.mk xx1.buttons xx1.rows xx1.shift xx1.line xx1.counter xx1.timer xx1.again xx1.control xx1.requests xx1.alarm (xx1.transfer - (1 : Int)) xx1.sending)).buttons (endsP (Po.mk xx1.buttons xx1.rows xx1.shift xx1.line xx1.counter xx1.timer xx1.again xx1.control xx1.requests xx1.alarm (xx1.transfer - (1 : Int)) xx1.sending)).rows (endsP (Po.mk xx1.buttons xx1.rows xx1.shift xx1.line xx1.counter xx1.timer xx1.again xx1.control xx1.requests xx1.alarm (xx1.transfer - (1 : Int)) xx1.sending)).shift (endsP (Po.mk xx1.buttons xx1.rows xx1.shift xx1.line xx1.counter xx1.timer xx1.again xx1.control xx1.requests xx1.alarm (xx1.transfer - (1 : Int)) xx1.sending)).line (endsP (Po.mk xx1.buttons xx1.rows xx1.shift xx1.line xx1.counter xx1.timer xx1.again xx1.control xx1.requests xx1.alarm (xx1.transfer - (1 : Int)) xx1.sending)).counter (endsP (Po.mk xx1.buttons xx1.rows xx1.shift xx1.line xx1.counter xx1.timer xx1.again xx1.control xx1.requests xx1.alarm (xx1.transfer - (1 : Int)) xx1.sending)).timer (endsP (Po.mk xx1.buttons xx1.rows xx1.shift xx1.line xx1.counter xx1.timer xx1.again xx1.control xx1.requests xx1.alarm (xx1.transfer - (1 : Int)) xx1.sending)).again (endsP (Po.mk xx1.buttons xx1.rows xx1.shift xx1.line xx1.counter xx1.timer xx1.again xx1.control xx1.requests xx1.alarm (xx1.transfer - (1 : Int)) xx1.sending)).control (endsP (Po.mk xx1.buttons xx1.rows xx1.shift xx1.line xx1.counter xx1.timer xx1.again xx1.control xx1.requests xx1.alarm (xx1.transfer - (1 : Int)) xx1.sending)).requests (endsP (Po.mk xx1.buttons xx1.rows xx1.shift xx1.line xx1.counter xx1.timer xx1.again xx1.control xx1.requests xx1.alarm (xx1.transfer - (1 : Int)) xx1.sending)).alarm (endsP (Po.mk xx1.buttons xx1.rows xx1.shift xx1.line xx1.counter xx1.timer xx1.again xx1.control xx1.requests xx1.alarm (xx1.transfer - (1 : Int)) xx1.sending)).transfer (endsP (Po.mk xx1.buttons xx1.rows xx1.shift xx1.line xx1.counter xx1.timer xx1.again xx1.control xx1.requests xx1.alarm (xx1.transfer - (1 : Int)) xx1.sending)).sending, xx2.fst, xx2.snd)), ?_, by kernel_rfl, ?_⟩
    rotate_left
    rotate_left
    refine Xg.at_skip ?_
    refine Xg.at_end_ps (v := (Value.tuple #[])) [0, 3, 2] [row p (60 : TypeId) [Value.int IntKind.u8 xx1.buttons, Value.int IntKind.u8 xx1.rows, Value.int IntKind.u8 xx1.shift, Value.int IntKind.u8 xx1.line, Value.int IntKind.u16 xx1.counter, Value.int IntKind.u8 xx1.timer, Value.int IntKind.u8 xx1.again, Value.int IntKind.u8 xx1.control, Value.int IntKind.u8 xx1.requests, Value.int IntKind.i64 xx1.alarm, Value.int IntKind.i64 (xx1.transfer - (1 : Int)), Value.int IntKind.u8 xx1.sending, Value.slice a xs.length c], bts a c xs, (Drv te)] Go.Proofs.Tryd.func31 (fun _ => by kernel_rfl) (by kernel_rfl) (by kernel_rfl) ?_
    refine ⟨((Po.mk xx1.buttons xx1.rows xx1.shift xx1.line xx1.counter xx1.timer xx1.again xx1.control xx1.requests xx1.alarm (xx1.transfer - (1 : Int)) xx1.sending, a, c)), ?_, by kernel_rfl, ?_⟩
    rotate_left
    rotate_left
    refine Xg.at_skip ?_
    refine Xg.at_end_ps (v := (Value.tuple #[])) [0, 3, 2] [PoR p xx1 (Value.slice a xs.length c), bts a c xs, (Drv te)] Go.Proofs.Tryd.func31 (fun _ => by kernel_rfl) (by kernel_rfl) (by kernel_rfl) ?_
    refine ⟨((Po.mk xx1.buttons xx1.rows xx1.shift xx1.line xx1.counter xx1.timer xx1.again xx1.control xx1.requests xx1.alarm xx1.transfer xx1.sending, a, c)), ?_, by kernel_rfl, ?_⟩
    rotate_left
    rotate_left
    refine Xg.at_skip ?_
    refine Xg.at_seq ?_
    refine Xg.at_region ?_
    refine Xg.ops_op (by kernel_rfl) (Xg.opx_load (b := xb1) (off := ((0 : Nat))) 0 (Value.pointer (some (Addr.mk p (0 : Nat) none))) rfl (by kernel_rfl) (by kernel_rfl) (by kernel_rfl) ?_)
    refine Xg.ops_op (by kernel_rfl) (Xg.opx_pure ((Value.func (Fn.func (59 : Nat)) #[] #[Value.pointer (some (Addr.mk xb1 (0 : Nat) none))])) rfl (fun _ => by kernel_rfl) ?_)
    refine Xg.ops_op (by kernel_rfl) (Xg.opx_callE [1, 0, 3] (fun _ => by kernel_rfl) (@Go.Proofs.YtncdmccdclhokaaDoor.driving_clock_e (te) (xb1) (p) ((Po.mk σ.buttons σ.rows σ.shift σ.line σ.counter σ.timer σ.again σ.control σ.requests (σ.alarm - (1 : Int)) σ.transfer σ.sending)) ((Value.slice a xs.length c))) (by kernel_rfl) (by kernel_rfl) fun xx1 xh3 => ?_)
    try dsimp only at xh3
    refine Xg.ops_nil ?_
    refine Xg.at_seq ?_
    refine Xg.at_region ?_
    refine Xg.ops_op (by kernel_rfl) (Xg.opx_load (b := xb1) (off := ((0 : Nat))) 1 (Value.pointer (some (Addr.mk p (0 : Nat) none))) rfl (by kernel_rfl) (by kernel_rfl) (by kernel_rfl) ?_)
    refine Xg.ops_op (by kernel_rfl) (Xg.opx_pure ((Value.pointer (some (Addr.mk p (0 : Nat) none)))) rfl (fun _ => by kernel_rfl) ?_)
    refine Xg.ops_op (by kernel_rfl) (Xg.opx_pure ((Value.pointer (some (Addr.mk p (10 : Nat) none)))) rfl (fun _ => by kernel_rfl) ?_)
    refine Xg.ops_op (by kernel_rfl) (Xg.opx_load (b := p) (off := ((10 : Nat))) 0 (Value.int IntKind.i64 xx1.transfer) rfl (by kernel_rfl) (by kernel_rfl) (by kernel_rfl) ?_)
    refine Xg.ops_op (by kernel_rfl) (Xg.opx_pure (.bool (decide ((xx1.transfer : Int) > ((0 : Int))))) rfl (fun _ => by kernel_rfl) ?_)
    refine Xg.ops_nil ?_
    refine Xg.at_dec (p := (xx1.transfer > (0 : Int))) (by kernel_rfl) (fun xh4 => ?_) (fun xh4 => ?_)
    refine Xg.at_seq ?_
    refine Xg.at_region ?_
    refine Xg.ops_op (by kernel_rfl) (Xg.opx_load (b := xb1) (off := ((0 : Nat))) 1 (Value.pointer (some (Addr.mk p (0 : Nat) none))) rfl (by kernel_rfl) (by kernel_rfl) (by kernel_rfl) ?_)
    refine Xg.ops_op (by kernel_rfl) (Xg.opx_pure ((Value.pointer (some (Addr.mk p (0 : Nat) none)))) rfl (fun _ => by kernel_rfl) ?_)
    refine Xg.ops_op (by kernel_rfl) (Xg.opx_pure ((Value.pointer (some (Addr.mk p (10 : Nat) none)))) rfl (fun _ => by kernel_rfl) ?_)
    refine Xg.ops_op (by kernel_rfl) (Xg.opx_load (b := p) (off := ((10 : Nat))) 0 (Value.int IntKind.i64 xx1.transfer) rfl (by kernel_rfl) (by kernel_rfl) (by kernel_rfl) ?_)
    refine Xg.ops_op (by kernel_rfl) (Xg.opx_int .i64 (IntKind.wrap .i64 ((xx1.transfer - (1 : Int)))) rfl (fun _ => by kernel_rfl) (Xg.wrap_i64_in (by omega)) ?_)
    refine Xg.ops_op (by kernel_rfl) (Xg.opx_pure ((Value.pointer (some (Addr.mk p (0 : Nat) none)))) rfl (fun _ => by kernel_rfl) ?_)
    refine Xg.ops_op (by kernel_rfl) (Xg.opx_pure ((Value.pointer (some (Addr.mk p (10 : Nat) none)))) rfl (fun _ => by kernel_rfl) ?_)
    refine Xg.ops_op (by kernel_rfl) (Xg.opx_store1 (off := 10) 0 (Value.int IntKind.i64 (xx1.transfer - (1 : Int))) (by kernel_rfl) rfl (by kernel_rfl) (by kernel_rfl) (by kernel_rfl) (Nat.le_of_ble_eq_true (by kernel_rfl)) ?_)
    refine Xg.ops_nil ?_
    refine Xg.at_seq ?_
    refine Xg.at_region ?_
    refine Xg.ops_op (by kernel_rfl) (Xg.opx_load (b := xb1) (off := ((0 : Nat))) 1 (Value.pointer (some (Addr.mk p (0 : Nat) none))) rfl (by kernel_rfl) (by kernel_rfl) (by kernel_rfl) ?_)
    refine Xg.ops_op (by kernel_rfl) (Xg.opx_pure ((Value.pointer (some (Addr.mk p (0 : Nat) none)))) rfl (fun _ => by kernel_rfl) ?_)
    refine Xg.ops_op (by kernel_rfl) (Xg.opx_pure ((Value.pointer (some (Addr.mk p (10 : Nat) none)))) rfl (fun _ => by kernel_rfl) ?_)
    refine Xg.ops_op (by kernel_rfl) (Xg.opx_load (b := p) (off := ((10 : Nat))) 0 (Value.int IntKind.i64 (xx1.transfer - (1 : Int))) rfl (by kernel_rfl) (by kernel_rfl) (by kernel_rfl) ?_)
    refine Xg.ops_op (by kernel_rfl) (Xg.opx_pure (.bool (decide (((xx1.transfer - (1 : Int)) : Int) = ((0 : Int))))) rfl (fun _ => by kernel_rfl) ?_)
    refine Xg.ops_nil ?_
    refine Xg.at_dec (p := (xx1.transfer - (1 : Int) = (0 : Int))) (by kernel_rfl) (fun xh5 => ?_) (fun xh5 => ?_)
    refine Xg.at_region ?_
    refine Xg.ops_op (by kernel_rfl) (Xg.opx_load (b := xb1) (off := ((0 : Nat))) 1 (Value.pointer (some (Addr.mk p (0 : Nat) none))) rfl (by kernel_rfl) (by kernel_rfl) (by kernel_rfl) ?_)
    refine Xg.ops_op (by kernel_rfl) (Xg.opx_callE [0, 3] (fun _ => by kernel_rfl) (@Go.Proofs.YtncdmccdclhokaaDoor.ends_d (p) ((Po.mk xx1.buttons xx1.rows xx1.shift xx1.line xx1.counter xx1.timer xx1.again xx1.control xx1.requests xx1.alarm (xx1.transfer - (1 : Int)) xx1.sending)) (a) (c) (xs) (by omega)) (by kernel_rfl) (by kernel_rfl) fun xx2 xh6 => ?_)
    try dsimp only at xh6
    refine Xg.ops_nil ?_
    refine Xg.at_end_ps (v := (Value.tuple #[])) [0, 1, 3] [PoS p (endsP (Po.mk xx1.buttons xx1.rows xx1.shift xx1.line xx1.counter xx1.timer xx1.again xx1.control xx1.requests xx1.alarm (xx1.transfer - (1 : Int)) xx1.sending)) xx2.fst xx2.snd (endsX xx1.sending xs), bts xx2.fst xx2.snd (endsX xx1.sending xs), (Drv te)] Go.Proofs.Tryd.func31 (fun _ => by kernel_rfl) (by kernel_rfl) (by kernel_rfl) ?_
    refine ⟨((Po.mk (endsP (Po.mk xx1.buttons xx1.rows xx1.shift xx1.line xx1.counter xx1.timer xx1.again xx1.control xx1.requests xx1.alarm (xx1.transfer - (1 : Int)) xx1.sending)).buttons (endsP (Po.mk xx1.buttons xx1.rows xx1.shift xx1.line xx1.counter xx1.timer xx1.again xx1.control xx1.requests xx1.alarm (xx1.transfer - (1 : Int)) xx1.sending)).rows (endsP (Po.mk xx1.buttons xx1.rows xx1.shift xx1.line xx1.counter xx1.timer xx1.again xx1.control xx1.requests xx1.alarm (xx1.transfer - (1 : Int)) xx1.sending)).shift (endsP (Po.mk xx1.buttons xx1.rows xx1.shift xx1.line xx1.counter xx1.timer xx1.again xx1.control xx1.requests xx1.alarm (xx1.transfer - (1 : Int)) xx1.sending)).line (endsP (Po.mk xx1.buttons xx1.rows xx1.shift xx1.line xx1.counter xx1.timer xx1.again xx1.control xx1.requests xx1.alarm (xx1.transfer - (1 : Int)) xx1.sending)).counter (endsP (Po.mk xx1.buttons xx1.rows xx1.shift xx1.line xx1.counter xx1.timer xx1.again xx1.control xx1.requests xx1.alarm (xx1.transfer - (1 : Int)) xx1.sending)).timer (endsP (Po.mk xx1.buttons xx1.rows xx1.shift xx1.line xx1.counter xx1.timer xx1.again xx1.control xx1.requests xx1.alarm (xx1.transfer - (1 : Int)) xx1.sending)).again (endsP (Po.mk xx1.buttons xx1.rows xx1.shift xx1.line xx1.counter xx1.timer xx1.again xx1.control xx1.requests xx1.alarm (xx1.transfer - (1 : Int)) xx1.sending)).control (endsP (Po.mk xx1.buttons xx1.rows xx1.shift xx1.line xx1.counter xx1.timer xx1.again xx1.control xx1.requests xx1.alarm (xx1.transfer - (1 : Int)) xx1.sending)).requests (endsP (Po.mk xx1.buttons xx1.rows xx1.shift xx1.line xx1.counter xx1.timer xx1.again xx1.control xx1.requests xx1.alarm (xx1.transfer - (1 : Int)) xx1.sending)).alarm (endsP (Po.mk xx1.buttons xx1.rows xx1.shift xx1.line xx1.counter xx1.timer xx1.again xx1.control xx1.requests xx1.alarm (xx1.transfer - (1 : Int)) xx1.sending)).transfer (endsP (Po.mk xx1.buttons xx1.rows xx1.shift xx1.line xx1.counter xx1.timer xx1.again xx1.control xx1.requests xx1.alarm (xx1.transfer - (1 : Int)) xx1.sending)).sending, xx2.fst, xx2.snd)), ?_, by kernel_rfl, ?_⟩
    rotate_left
    rotate_left
    refine Xg.at_skip ?_
    refine Xg.at_end_ps (v := (Value.tuple #[])) [0, 3, 2] [row p (60 : TypeId) [Value.int IntKind.u8 xx1.buttons, Value.int IntKind.u8 xx1.rows, Value.int IntKind.u8 xx1.shift, Value.int IntKind.u8 xx1.line, Value.int IntKind.u16 xx1.counter, Value.int IntKind.u8 xx1.timer, Value.int IntKind.u8 xx1.again, Value.int IntKind.u8 xx1.control, Value.int IntKind.u8 xx1.requests, Value.int IntKind.i64 xx1.alarm, Value.int IntKind.i64 (xx1.transfer - (1 : Int)), Value.int IntKind.u8 xx1.sending, Value.slice a xs.length c], bts a c xs, (Drv te)] Go.Proofs.Tryd.func31 (fun _ => by kernel_rfl) (by kernel_rfl) (by kernel_rfl) ?_
    refine ⟨((Po.mk xx1.buttons xx1.rows xx1.shift xx1.line xx1.counter xx1.timer xx1.again xx1.control xx1.requests xx1.alarm (xx1.transfer - (1 : Int)) xx1.sending, a, c)), ?_, by kernel_rfl, ?_⟩
    rotate_left
    rotate_left
    refine Xg.at_skip ?_
    refine Xg.at_end_ps (v := (Value.tuple #[])) [0, 3, 2] [PoR p xx1 (Value.slice a xs.length c), bts a c xs, (Drv te)] Go.Proofs.Tryd.func31 (fun _ => by kernel_rfl) (by kernel_rfl) (by kernel_rfl) ?_
    refine ⟨((Po.mk xx1.buttons xx1.rows xx1.shift xx1.line xx1.counter xx1.timer xx1.again xx1.control xx1.requests xx1.alarm xx1.transfer xx1.sending, a, c)), ?_, by kernel_rfl, ?_⟩
    rotate_left
    rotate_left
    refine Xg.at_skip ?_
    refine Xg.at_seq ?_
    refine Xg.at_region ?_
    refine Xg.ops_op (by kernel_rfl) (Xg.opx_load (b := xb1) (off := ((0 : Nat))) 0 (Value.pointer (some (Addr.mk p (0 : Nat) none))) rfl (by kernel_rfl) (by kernel_rfl) (by kernel_rfl) ?_)
    refine Xg.ops_op (by kernel_rfl) (Xg.opx_pure ((Value.func (Fn.func (59 : Nat)) #[] #[Value.pointer (some (Addr.mk xb1 (0 : Nat) none))])) rfl (fun _ => by kernel_rfl) ?_)
    refine Xg.ops_op (by kernel_rfl) (Xg.opx_callE [1, 0, 3] (fun _ => by kernel_rfl) (@Go.Proofs.YtncdmccdclhokaaDoor.driving_clock_e (te) (xb1) (p) (σ) ((Value.slice a xs.length c))) (by kernel_rfl) (by kernel_rfl) fun xx1 xh2 => ?_)
    try dsimp only at xh2
    refine Xg.ops_nil ?_
    refine Xg.at_seq ?_
    refine Xg.at_region ?_
    refine Xg.ops_op (by kernel_rfl) (Xg.opx_load (b := xb1) (off := ((0 : Nat))) 1 (Value.pointer (some (Addr.mk p (0 : Nat) none))) rfl (by kernel_rfl) (by kernel_rfl) (by kernel_rfl) ?_)
    refine Xg.ops_op (by kernel_rfl) (Xg.opx_pure ((Value.pointer (some (Addr.mk p (0 : Nat) none)))) rfl (fun _ => by kernel_rfl) ?_)
    refine Xg.ops_op (by kernel_rfl) (Xg.opx_pure ((Value.pointer (some (Addr.mk p (10 : Nat) none)))) rfl (fun _ => by kernel_rfl) ?_)
    refine Xg.ops_op (by kernel_rfl) (Xg.opx_load (b := p) (off := ((10 : Nat))) 0 (Value.int IntKind.i64 xx1.transfer) rfl (by kernel_rfl) (by kernel_rfl) (by kernel_rfl) ?_)
    refine Xg.ops_op (by kernel_rfl) (Xg.opx_pure (.bool (decide ((xx1.transfer : Int) > ((0 : Int))))) rfl (fun _ => by kernel_rfl) ?_)
    refine Xg.ops_nil ?_
    refine Xg.at_dec (p := (xx1.transfer > (0 : Int))) (by kernel_rfl) (fun xh3 => ?_) (fun xh3 => ?_)
    refine Xg.at_seq ?_
    refine Xg.at_region ?_
    refine Xg.ops_op (by kernel_rfl) (Xg.opx_load (b := xb1) (off := ((0 : Nat))) 1 (Value.pointer (some (Addr.mk p (0 : Nat) none))) rfl (by kernel_rfl) (by kernel_rfl) (by kernel_rfl) ?_)
    refine Xg.ops_op (by kernel_rfl) (Xg.opx_pure ((Value.pointer (some (Addr.mk p (0 : Nat) none)))) rfl (fun _ => by kernel_rfl) ?_)
    refine Xg.ops_op (by kernel_rfl) (Xg.opx_pure ((Value.pointer (some (Addr.mk p (10 : Nat) none)))) rfl (fun _ => by kernel_rfl) ?_)
    refine Xg.ops_op (by kernel_rfl) (Xg.opx_load (b := p) (off := ((10 : Nat))) 0 (Value.int IntKind.i64 xx1.transfer) rfl (by kernel_rfl) (by kernel_rfl) (by kernel_rfl) ?_)
    refine Xg.ops_op (by kernel_rfl) (Xg.opx_int .i64 (IntKind.wrap .i64 ((xx1.transfer - (1 : Int)))) rfl (fun _ => by kernel_rfl) (Xg.wrap_i64_in (by omega)) ?_)
    refine Xg.ops_op (by kernel_rfl) (Xg.opx_pure ((Value.pointer (some (Addr.mk p (0 : Nat) none)))) rfl (fun _ => by kernel_rfl) ?_)
    refine Xg.ops_op (by kernel_rfl) (Xg.opx_pure ((Value.pointer (some (Addr.mk p (10 : Nat) none)))) rfl (fun _ => by kernel_rfl) ?_)
    refine Xg.ops_op (by kernel_rfl) (Xg.opx_store1 (off := 10) 0 (Value.int IntKind.i64 (xx1.transfer - (1 : Int))) (by kernel_rfl) rfl (by kernel_rfl) (by kernel_rfl) (by kernel_rfl) (Nat.le_of_ble_eq_true (by kernel_rfl)) ?_)
    refine Xg.ops_nil ?_
    refine Xg.at_seq ?_
    refine Xg.at_region ?_
    refine Xg.ops_op (by kernel_rfl) (Xg.opx_load (b := xb1) (off := ((0 : Nat))) 1 (Value.pointer (some (Addr.mk p (0 : Nat) none))) rfl (by kernel_rfl) (by kernel_rfl) (by kernel_rfl) ?_)
    refine Xg.ops_op (by kernel_rfl) (Xg.opx_pure ((Value.pointer (some (Addr.mk p (0 : Nat) none)))) rfl (fun _ => by kernel_rfl) ?_)
    refine Xg.ops_op (by kernel_rfl) (Xg.opx_pure ((Value.pointer (some (Addr.mk p (10 : Nat) none)))) rfl (fun _ => by kernel_rfl) ?_)
    refine Xg.ops_op (by kernel_rfl) (Xg.opx_load (b := p) (off := ((10 : Nat))) 0 (Value.int IntKind.i64 (xx1.transfer - (1 : Int))) rfl (by kernel_rfl) (by kernel_rfl) (by kernel_rfl) ?_)
    refine Xg.ops_op (by kernel_rfl) (Xg.opx_pure (.bool (decide (((xx1.transfer - (1 : Int)) : Int) = ((0 : Int))))) rfl (fun _ => by kernel_rfl) ?_)
    refine Xg.ops_nil ?_
    refine Xg.at_dec (p := (xx1.transfer - (1 : Int) = (0 : Int))) (by kernel_rfl) (fun xh4 => ?_) (fun xh4 => ?_)
    refine Xg.at_region ?_
    refine Xg.ops_op (by kernel_rfl) (Xg.opx_load (b := xb1) (off := ((0 : Nat))) 1 (Value.pointer (some (Addr.mk p (0 : Nat) none))) rfl (by kernel_rfl) (by kernel_rfl) (by kernel_rfl) ?_)
    refine Xg.ops_op (by kernel_rfl) (Xg.opx_callE [0, 3] (fun _ => by kernel_rfl) (@Go.Proofs.YtncdmccdclhokaaDoor.ends_d (p) ((Po.mk xx1.buttons xx1.rows xx1.shift xx1.line xx1.counter xx1.timer xx1.again xx1.control xx1.requests xx1.alarm (xx1.transfer - (1 : Int)) xx1.sending)) (a) (c) (xs) (by omega)) (by kernel_rfl) (by kernel_rfl) fun xx2 xh5 => ?_)
    try dsimp only at xh5
    refine Xg.ops_nil ?_
    refine Xg.at_end_ps (v := (Value.tuple #[])) [0, 1, 3] [PoS p (endsP (Po.mk xx1.buttons xx1.rows xx1.shift xx1.line xx1.counter xx1.timer xx1.again xx1.control xx1.requests xx1.alarm (xx1.transfer - (1 : Int)) xx1.sending)) xx2.fst xx2.snd (endsX xx1.sending xs), bts xx2.fst xx2.snd (endsX xx1.sending xs), (Drv te)] Go.Proofs.Tryd.func31 (fun _ => by kernel_rfl) (by kernel_rfl) (by kernel_rfl) ?_
    refine ⟨((Po.mk (endsP (Po.mk xx1.buttons xx1.rows xx1.shift xx1.line xx1.counter xx1.timer xx1.again xx1.control xx1.requests xx1.alarm (xx1.transfer - (1 : Int)) xx1.sending)).buttons (endsP (Po.mk xx1.buttons xx1.rows xx1.shift xx1.line xx1.counter xx1.timer xx1.again xx1.control xx1.requests xx1.alarm (xx1.transfer - (1 : Int)) xx1.sending)).rows (endsP (Po.mk xx1.buttons xx1.rows xx1.shift xx1.line xx1.counter xx1.timer xx1.again xx1.control xx1.requests xx1.alarm (xx1.transfer - (1 : Int)) xx1.sending)).shift (endsP (Po.mk xx1.buttons xx1.rows xx1.shift xx1.line xx1.counter xx1.timer xx1.again xx1.control xx1.requests xx1.alarm (xx1.transfer - (1 : Int)) xx1.sending)).line (endsP (Po.mk xx1.buttons xx1.rows xx1.shift xx1.line xx1.counter xx1.timer xx1.again xx1.control xx1.requests xx1.alarm (xx1.transfer - (1 : Int)) xx1.sending)).counter (endsP (Po.mk xx1.buttons xx1.rows xx1.shift xx1.line xx1.counter xx1.timer xx1.again xx1.control xx1.requests xx1.alarm (xx1.transfer - (1 : Int)) xx1.sending)).timer (endsP (Po.mk xx1.buttons xx1.rows xx1.shift xx1.line xx1.counter xx1.timer xx1.again xx1.control xx1.requests xx1.alarm (xx1.transfer - (1 : Int)) xx1.sending)).again (endsP (Po.mk xx1.buttons xx1.rows xx1.shift xx1.line xx1.counter xx1.timer xx1.again xx1.control xx1.requests xx1.alarm (xx1.transfer - (1 : Int)) xx1.sending)).control (endsP (Po.mk xx1.buttons xx1.rows xx1.shift xx1.line xx1.counter xx1.timer xx1.again xx1.control xx1.requests xx1.alarm (xx1.transfer - (1 : Int)) xx1.sending)).requests (endsP (Po.mk xx1.buttons xx1.rows xx1.shift xx1.line xx1.counter xx1.timer xx1.again xx1.control xx1.requests xx1.alarm (xx1.transfer - (1 : Int)) xx1.sending)).alarm (endsP (Po.mk xx1.buttons xx1.rows xx1.shift xx1.line xx1.counter xx1.timer xx1.again xx1.control xx1.requests xx1.alarm (xx1.transfer - (1 : Int)) xx1.sending)).transfer (endsP (Po.mk xx1.buttons xx1.rows xx1.shift xx1.line xx1.counter xx1.timer xx1.again xx1.control xx1.requests xx1.alarm (xx1.transfer - (1 : Int)) xx1.sending)).sending, xx2.fst, xx2.snd)), ?_, by kernel_rfl, ?_⟩
    rotate_left
    rotate_left
    refine Xg.at_skip ?_
    refine Xg.at_end_ps (v := (Value.tuple #[])) [0, 3, 2] [row p (60 : TypeId) [Value.int IntKind.u8 xx1.buttons, Value.int IntKind.u8 xx1.rows, Value.int IntKind.u8 xx1.shift, Value.int IntKind.u8 xx1.line, Value.int IntKind.u16 xx1.counter, Value.int IntKind.u8 xx1.timer, Value.int IntKind.u8 xx1.again, Value.int IntKind.u8 xx1.control, Value.int IntKind.u8 xx1.requests, Value.int IntKind.i64 xx1.alarm, Value.int IntKind.i64 (xx1.transfer - (1 : Int)), Value.int IntKind.u8 xx1.sending, Value.slice a xs.length c], bts a c xs, (Drv te)] Go.Proofs.Tryd.func31 (fun _ => by kernel_rfl) (by kernel_rfl) (by kernel_rfl) ?_
    refine ⟨((Po.mk xx1.buttons xx1.rows xx1.shift xx1.line xx1.counter xx1.timer xx1.again xx1.control xx1.requests xx1.alarm (xx1.transfer - (1 : Int)) xx1.sending, a, c)), ?_, by kernel_rfl, ?_⟩
    rotate_left
    rotate_left
    refine Xg.at_skip ?_
    refine Xg.at_end_ps (v := (Value.tuple #[])) [0, 3, 2] [PoR p xx1 (Value.slice a xs.length c), bts a c xs, (Drv te)] Go.Proofs.Tryd.func31 (fun _ => by kernel_rfl) (by kernel_rfl) (by kernel_rfl) ?_
    refine ⟨((Po.mk xx1.buttons xx1.rows xx1.shift xx1.line xx1.counter xx1.timer xx1.again xx1.control xx1.requests xx1.alarm xx1.transfer xx1.sending, a, c)), ?_, by kernel_rfl, ?_⟩
    rotate_left
    rotate_left)
  all_goals (obtain ⟨e1, e2, e3⟩ := ‹xx1 = _ ∧ _ ∧ _›)
  all_goals (have e : xx1 = counted (alarmed σ) := by rw [e1]; simp [alarmed, *])
  all_goals first
    | (show _ = clockP σ; rw [clockP, ← e, ← e2]; split <;> (try split) <;> first | rfl | omega)
    | (rw [clockX, ← e3, ← e2]; split <;> (try split) <;> first | rfl | omega)

end Go.Proofs.YtncdmccdclhokaaDoor
