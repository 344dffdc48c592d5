/- The law PpuWindow: what it does. -/
import Derived.Test.YtkfclamiendamaaKV35
import Derived.Test.YtkfclamiendamaaKS
namespace Go.Proofs.Ytkfclamiendamaa
open Go.Sl Go.Xg
set_option linter.unusedVariables false
set_option linter.unusedSimpArgs false
set_option maxHeartbeats 4000000
set_option maxRecDepth 100000

set_option maxHeartbeats 0 in
theorem pwindow_d (A : HP) (s : Sn) (hs : s.Ok A) (wy : Int) (hwy : i64ok wy) (wx : Int) (hwx : i64ok wx) (scy : Int) (hscy : i64ok scy) (scx : Int) (hscx : i64ok scx) : Does Try.prog 8 [snV s, .int .i64 wy, .int .i64 wx, .int .i64 scy, .int .i64 scx] [A] (Ret (.bool true) [A]) := by
  have hpl : ∀ y x : Int, -9223372036854775808 ≤ y ∧ y ≤ 9223372036854775807 → -9223372036854775808 ≤ x ∧ x ≤ 9223372036854775807 → _ := fun y x hy hx => plain_d A s y x hy hx
  have hsh : ∀ (b Y X : Nat) (r0 wy wx : Int), Y < 256 → X < 256 → 0 ≤ r0 ∧ r0 ≤ 255 → 0 ≤ wy ∧ wy ≤ 255 → 0 ≤ wx ∧ wx ≤ 255 → _ := fun b Y X r0 wy wx h1 h2 h3 h4 h5 => shot_reg A s hs b r0 0 Y X 0 0 0 228 0 0 wy wx (by
    intro z hz
    unfold i64ok
    simp only [List.mem_cons, List.not_mem_nil, or_false] at hz
    omega)
  have b1 := hscy
  have b2 := hscx
  unfold i64ok at b1 b2
  (focus
    refine Xg.spec_of Go.Proofs.Try.func8 rfl Go.Proofs.Try.ntmps8 fun g F => ?_)
  (focus
    refine Xg.at_seq ?_
    refine Xg.at_region ?_
    refine Xg.ops_op (by kernel_rfl) (Xg.opx_box (v := (Value.agg #[Value.slice s.ra s.rn s.rc, Value.slice s.oa s.on s.oc, Value.slice s.pa s.pn s.pc])) [Value.slice s.ra s.rn s.rc, Value.slice s.oa s.on s.oc, Value.slice s.pa s.pn s.pc] (by kernel_rfl) (by kernel_rfl) fun xb1 => ?_)
    refine Xg.ops_op (by kernel_rfl) (Xg.opx_pure ((Value.bool false)) rfl (fun _ => by kernel_rfl) ?_)
    refine Xg.ops_nil ?_
    refine Xg.at_seq ?_
    refine Xg.at_region ?_
    refine Xg.ops_op (by kernel_rfl) (Xg.opx_loadn (off := 0) 3 0 [Value.slice s.ra s.rn s.rc, Value.slice s.oa s.on s.oc, Value.slice s.pa s.pn s.pc] (by kernel_rfl) rfl (by kernel_rfl) rfl (Xg.cells_at (by kernel_rfl)) (by kernel_rfl) ?_)
    refine Xg.ops_op (by kernel_rfl) (Xg.opx_pure ((iv scy)) rfl (fun _ => by kernel_rfl) ?_)
    refine Xg.ops_op (by kernel_rfl) (Xg.opx_pure ((iv scx)) rfl (fun _ => by kernel_rfl) ?_)
    refine Xg.ops_op (by kernel_rfl) (Xg.opx_callE' [1] (fun xx1 => [rowR xx1.fst (145 : Int) (0 : Int) (↑xx1.snd.fst : Int) (↑xx1.snd.snd : Int) (0 : Int) (0 : Int) (0 : Int) (228 : Int) (0 : Int) (0 : Int) (0 : Int) (0 : Int), A, row xb1 (36 : Nat) [Value.slice s.ra s.rn s.rc, Value.slice s.oa s.on s.oc, Value.slice s.pa s.pn s.pc]]) (fun _ => by kernel_rfl) (@hpl (scy) (scx) (by omega) (by omega)) (by kernel_rfl) (by kernel_rfl) (by kernel_rfl) fun xx1 xh1 => ?_)
    try dsimp only at xh1
    obtain ⟨xh1_0, xh1_1, xh1_2, xh1_3⟩ := xh1
    refine Xg.ops_op (by kernel_rfl) (Xg.opx_new 3 [Value.slice none (0 : Nat) (0 : Nat), Value.slice none (0 : Nat) (0 : Nat), Value.slice none (0 : Nat) (0 : Nat)] (by kernel_rfl) (by kernel_rfl) fun xb2 => ?_)
    refine Xg.ops_op (by kernel_rfl) (Xg.opx_storen 3 (off := 0) 0 [Value.slice (some (Addr.mk xx1.fst (0 : Nat) none)) (12 : Nat) (12 : Nat), Value.slice none (0 : Nat) (0 : Nat), Value.slice s.pa s.pn s.pc] (by kernel_rfl) rfl (by kernel_rfl) (by kernel_rfl) rfl (by kernel_rfl) (Nat.le_of_ble_eq_true (by kernel_rfl)) ?_)
    refine Xg.ops_nil ?_
    refine Xg.at_seq ?_
    refine Xg.at_region ?_
    refine Xg.ops_op (by kernel_rfl) (Xg.opx_loadn (off := 0) 3 0 [Value.slice (some (Addr.mk xx1.fst (0 : Nat) none)) (12 : Nat) (12 : Nat), Value.slice none (0 : Nat) (0 : Nat), Value.slice s.pa s.pn s.pc] (by kernel_rfl) rfl (by kernel_rfl) rfl (Xg.cells_at (by kernel_rfl)) (by kernel_rfl) ?_)
    refine Xg.ops_op (by kernel_rfl) (Xg.opx_callE' [1, 2] (fun xx2 => [ints (5 : TypeId) IntKind.u8 xx2.fst xx2.snd.fst xx2.snd.snd, rowR xx1.fst (145 : Int) (0 : Int) (↑xx1.snd.fst : Int) (↑xx1.snd.snd : Int) (0 : Int) (0 : Int) (0 : Int) (228 : Int) (0 : Int) (0 : Int) (0 : Int) (0 : Int), A, row xb2 (36 : Nat) [Value.slice (some (Addr.mk xx1.fst (0 : Nat) none)) (12 : Nat) (12 : Nat), Value.slice none (0 : Nat) (0 : Nat), Value.slice s.pa s.pn s.pc], row xb1 (36 : Nat) [Value.slice s.ra s.rn s.rc, Value.slice s.oa s.on s.oc, Value.slice s.pa s.pn s.pc]]) (fun _ => by kernel_rfl) (@hsh (xx1.fst) (xx1.snd.fst) (xx1.snd.snd) (((145 : Int))) (((0 : Int))) (((0 : Int))) (by omega) (by omega) (by omega) (by omega) (by omega)) (by kernel_rfl) (by kernel_rfl) (by kernel_rfl) fun xx2 xh2 => ?_)
    try dsimp only at xh2
    obtain ⟨xh2_0, xh2_1⟩ := xh2
    refine Xg.ops_op (by kernel_rfl) (Xg.opx_pure ((Value.tuple #[Value.slice xx2.fst xx2.snd.snd.length xx2.snd.fst, Value.bool true])) rfl (fun _ => by kernel_rfl) ?_)
    refine Xg.ops_op (by kernel_rfl) (Xg.opx_pure ((Value.slice xx2.fst xx2.snd.snd.length xx2.snd.fst)) rfl (fun _ => by kernel_rfl) ?_)
    refine Xg.ops_op (by kernel_rfl) (Xg.opx_pure ((Value.bool true)) rfl (fun _ => by kernel_rfl) ?_)
    refine Xg.ops_op (by kernel_rfl) (Xg.opx_pure ((Value.slice xx2.fst xx2.snd.snd.length xx2.snd.fst)) rfl (fun _ => by kernel_rfl) ?_)
    refine Xg.ops_op (by kernel_rfl) (Xg.opx_pure ((Value.bool true)) rfl (fun _ => by kernel_rfl) ?_)
    refine Xg.ops_nil ?_
    refine Xg.at_seq ?_
    refine Xg.at_region ?_
    refine Xg.ops_op (by kernel_rfl) (Xg.opx_loadn (off := 0) 3 4 [Value.slice s.ra s.rn s.rc, Value.slice s.oa s.on s.oc, Value.slice s.pa s.pn s.pc] (by kernel_rfl) rfl (by kernel_rfl) rfl (Xg.cells_at (by kernel_rfl)) (by kernel_rfl) ?_)
    refine Xg.ops_op (by kernel_rfl) (Xg.opx_callE' [2] (fun xx3 => [rowR xx3.fst (145 : Int) (0 : Int) (↑xx3.snd.fst : Int) (↑xx3.snd.snd : Int) (0 : Int) (0 : Int) (0 : Int) (228 : Int) (0 : Int) (0 : Int) (0 : Int) (0 : Int), A, ints (5 : TypeId) IntKind.u8 xx2.fst xx2.snd.fst xx2.snd.snd, rowR xx1.fst (145 : Int) (0 : Int) (↑xx1.snd.fst : Int) (↑xx1.snd.snd : Int) (0 : Int) (0 : Int) (0 : Int) (228 : Int) (0 : Int) (0 : Int) (0 : Int) (0 : Int), row xb2 (36 : Nat) [Value.slice (some (Addr.mk xx1.fst (0 : Nat) none)) (12 : Nat) (12 : Nat), Value.slice none (0 : Nat) (0 : Nat), Value.slice s.pa s.pn s.pc], row xb1 (36 : Nat) [Value.slice s.ra s.rn s.rc, Value.slice s.oa s.on s.oc, Value.slice s.pa s.pn s.pc]]) (fun _ => by kernel_rfl) (@hpl (((0 : Int))) (((0 : Int))) (by omega) (by omega)) (by kernel_rfl) (by kernel_rfl) (by kernel_rfl) fun xx3 xh3 => ?_)
    try dsimp only at xh3
    obtain ⟨xh3_0, xh3_1, xh3_2, xh3_3⟩ := xh3
    refine Xg.ops_op (by kernel_rfl) (Xg.opx_new 3 [Value.slice none (0 : Nat) (0 : Nat), Value.slice none (0 : Nat) (0 : Nat), Value.slice none (0 : Nat) (0 : Nat)] (by kernel_rfl) (by kernel_rfl) fun xb3 => ?_)
    refine Xg.ops_op (by kernel_rfl) (Xg.opx_storen 3 (off := 0) 0 [Value.slice (some (Addr.mk xx3.fst (0 : Nat) none)) (12 : Nat) (12 : Nat), Value.slice none (0 : Nat) (0 : Nat), Value.slice s.pa s.pn s.pc] (by kernel_rfl) rfl (by kernel_rfl) (by kernel_rfl) rfl (by kernel_rfl) (Nat.le_of_ble_eq_true (by kernel_rfl)) ?_)
    refine Xg.ops_nil ?_
    refine Xg.at_seq ?_
    refine Xg.at_region ?_
    refine Xg.ops_op (by kernel_rfl) (Xg.opx_loadn (off := 0) 3 0 [Value.slice (some (Addr.mk xx3.fst (0 : Nat) none)) (12 : Nat) (12 : Nat), Value.slice none (0 : Nat) (0 : Nat), Value.slice s.pa s.pn s.pc] (by kernel_rfl) rfl (by kernel_rfl) rfl (Xg.cells_at (by kernel_rfl)) (by kernel_rfl) ?_)
    refine Xg.ops_op (by kernel_rfl) (Xg.opx_callE' [1, 2] (fun xx4 => [ints (5 : TypeId) IntKind.u8 xx4.fst xx4.snd.fst xx4.snd.snd, rowR xx3.fst (145 : Int) (0 : Int) (↑xx3.snd.fst : Int) (↑xx3.snd.snd : Int) (0 : Int) (0 : Int) (0 : Int) (228 : Int) (0 : Int) (0 : Int) (0 : Int) (0 : Int), A, row xb3 (36 : Nat) [Value.slice (some (Addr.mk xx3.fst (0 : Nat) none)) (12 : Nat) (12 : Nat), Value.slice none (0 : Nat) (0 : Nat), Value.slice s.pa s.pn s.pc], ints (5 : TypeId) IntKind.u8 xx2.fst xx2.snd.fst xx2.snd.snd, rowR xx1.fst (145 : Int) (0 : Int) (↑xx1.snd.fst : Int) (↑xx1.snd.snd : Int) (0 : Int) (0 : Int) (0 : Int) (228 : Int) (0 : Int) (0 : Int) (0 : Int) (0 : Int), row xb2 (36 : Nat) [Value.slice (some (Addr.mk xx1.fst (0 : Nat) none)) (12 : Nat) (12 : Nat), Value.slice none (0 : Nat) (0 : Nat), Value.slice s.pa s.pn s.pc], row xb1 (36 : Nat) [Value.slice s.ra s.rn s.rc, Value.slice s.oa s.on s.oc, Value.slice s.pa s.pn s.pc]]) (fun _ => by kernel_rfl) (@hsh (xx3.fst) (xx3.snd.fst) (xx3.snd.snd) (((145 : Int))) (((0 : Int))) (((0 : Int))) (by omega) (by omega) (by omega) (by omega) (by omega)) (by kernel_rfl) (by kernel_rfl) (by kernel_rfl) fun xx4 xh4 => ?_)
    try dsimp only at xh4
    obtain ⟨xh4_0, xh4_1⟩ := xh4
    refine Xg.ops_op (by kernel_rfl) (Xg.opx_pure ((Value.tuple #[Value.slice xx4.fst xx4.snd.snd.length xx4.snd.fst, Value.bool true])) rfl (fun _ => by kernel_rfl) ?_)
    refine Xg.ops_op (by kernel_rfl) (Xg.opx_pure ((Value.slice xx4.fst xx4.snd.snd.length xx4.snd.fst)) rfl (fun _ => by kernel_rfl) ?_)
    refine Xg.ops_op (by kernel_rfl) (Xg.opx_pure ((Value.bool true)) rfl (fun _ => by kernel_rfl) ?_)
    refine Xg.ops_op (by kernel_rfl) (Xg.opx_pure ((Value.slice xx4.fst xx4.snd.snd.length xx4.snd.fst)) rfl (fun _ => by kernel_rfl) ?_)
    refine Xg.ops_op (by kernel_rfl) (Xg.opx_pure ((Value.bool true)) rfl (fun _ => by kernel_rfl) ?_)
    refine Xg.ops_nil ?_
    refine Xg.at_seq ?_
    refine Xg.at_region ?_
    refine Xg.ops_op (by kernel_rfl) (Xg.opx_pure ((iv wy)) rfl (fun _ => by kernel_rfl) ?_)
    refine Xg.ops_op (by kernel_rfl) (Xg.opx_callE' [] (fun xx5 => [ints (5 : TypeId) IntKind.u8 xx4.fst xx4.snd.fst xx4.snd.snd, rowR xx3.fst (145 : Int) (0 : Int) (↑xx3.snd.fst : Int) (↑xx3.snd.snd : Int) (0 : Int) (0 : Int) (0 : Int) (228 : Int) (0 : Int) (0 : Int) (0 : Int) (0 : Int), A, row xb3 (36 : Nat) [Value.slice (some (Addr.mk xx3.fst (0 : Nat) none)) (12 : Nat) (12 : Nat), Value.slice none (0 : Nat) (0 : Nat), Value.slice s.pa s.pn s.pc], ints (5 : TypeId) IntKind.u8 xx2.fst xx2.snd.fst xx2.snd.snd, rowR xx1.fst (145 : Int) (0 : Int) (↑xx1.snd.fst : Int) (↑xx1.snd.snd : Int) (0 : Int) (0 : Int) (0 : Int) (228 : Int) (0 : Int) (0 : Int) (0 : Int) (0 : Int), row xb2 (36 : Nat) [Value.slice (some (Addr.mk xx1.fst (0 : Nat) none)) (12 : Nat) (12 : Nat), Value.slice none (0 : Nat) (0 : Nat), Value.slice s.pa s.pn s.pc], row xb1 (36 : Nat) [Value.slice s.ra s.rn s.rc, Value.slice s.oa s.on s.oc, Value.slice s.pa s.pn s.pc]]) (fun _ => by kernel_rfl) (@Go.Proofs.Ytkfclamiendamaa.pick_d (wy) ((nat_lit 170)) (by omega) (by first | rfl | decide | (constructor <;> omega) | (simp; done) | (simp; omega))) (by kernel_rfl) (by kernel_rfl) (by kernel_rfl) fun xx5 xh5 => ?_)
    try dsimp only at xh5
    obtain ⟨xh5_0, xh5_1⟩ := xh5
    refine Xg.ops_op (by kernel_rfl) (Xg.opx_pure ((iv (↑xx5 : Int))) rfl (fun _ => by kernel_rfl) ?_)
    refine Xg.ops_nil ?_
    refine Xg.at_seq ?_
    refine Xg.at_region ?_
    refine Xg.ops_op (by kernel_rfl) (Xg.opx_pure ((iv wx)) rfl (fun _ => by kernel_rfl) ?_)
    refine Xg.ops_op (by kernel_rfl) (Xg.opx_callE' [] (fun xx6 => [ints (5 : TypeId) IntKind.u8 xx4.fst xx4.snd.fst xx4.snd.snd, rowR xx3.fst (145 : Int) (0 : Int) (↑xx3.snd.fst : Int) (↑xx3.snd.snd : Int) (0 : Int) (0 : Int) (0 : Int) (228 : Int) (0 : Int) (0 : Int) (0 : Int) (0 : Int), A, row xb3 (36 : Nat) [Value.slice (some (Addr.mk xx3.fst (0 : Nat) none)) (12 : Nat) (12 : Nat), Value.slice none (0 : Nat) (0 : Nat), Value.slice s.pa s.pn s.pc], ints (5 : TypeId) IntKind.u8 xx2.fst xx2.snd.fst xx2.snd.snd, rowR xx1.fst (145 : Int) (0 : Int) (↑xx1.snd.fst : Int) (↑xx1.snd.snd : Int) (0 : Int) (0 : Int) (0 : Int) (228 : Int) (0 : Int) (0 : Int) (0 : Int) (0 : Int), row xb2 (36 : Nat) [Value.slice (some (Addr.mk xx1.fst (0 : Nat) none)) (12 : Nat) (12 : Nat), Value.slice none (0 : Nat) (0 : Nat), Value.slice s.pa s.pn s.pc], row xb1 (36 : Nat) [Value.slice s.ra s.rn s.rc, Value.slice s.oa s.on s.oc, Value.slice s.pa s.pn s.pc]]) (fun _ => by kernel_rfl) (@Go.Proofs.Ytkfclamiendamaa.pick_d (wx) ((nat_lit 160)) (by omega) (by first | rfl | decide | (constructor <;> omega) | (simp; done) | (simp; omega))) (by kernel_rfl) (by kernel_rfl) (by kernel_rfl) fun xx6 xh6 => ?_)
    try dsimp only at xh6
    obtain ⟨xh6_0, xh6_1⟩ := xh6
    refine Xg.ops_op (by kernel_rfl) (Xg.opx_int .i64 (IntKind.wrap .i64 (((7 : Int) + (↑xx6 : Int)))) rfl (fun _ => by kernel_rfl) (Xg.wrap_i64_in (by omega)) ?_)
    refine Xg.ops_op (by kernel_rfl) (Xg.opx_pure ((iv ((7 : Int) + (↑xx6 : Int)))) rfl (fun _ => by kernel_rfl) ?_)
    refine Xg.ops_nil ?_
    refine Xg.at_seq ?_
    refine Xg.at_region ?_
    refine Xg.ops_op (by kernel_rfl) (Xg.opx_pure ((pv xb2 0)) rfl (fun _ => by kernel_rfl) ?_)
    refine Xg.ops_op (by kernel_rfl) (Xg.opx_load (b := xb2) (off := ((0 : Nat))) 6 (Value.slice (some (Addr.mk xx1.fst (0 : Nat) none)) (12 : Nat) (12 : Nat)) rfl (by kernel_rfl) (by kernel_rfl) (by kernel_rfl) ?_)
    refine Xg.ops_op (by kernel_rfl) (Xg.opx_pure (pv xx1.fst 0) rfl (fun _ => by kernel_rfl) ?_)
    refine Xg.ops_op (by kernel_rfl) (Xg.opx_store1 (off := 0) 5 (iv 177) (by kernel_rfl) rfl (by kernel_rfl) (by kernel_rfl) (by kernel_rfl) (Nat.le_of_ble_eq_true (by kernel_rfl)) ?_)
    refine Xg.ops_nil ?_
    refine Xg.at_seq ?_
    refine Xg.at_region ?_
    refine Xg.ops_op (by kernel_rfl) (Xg.opx_pure ((pv xb2 0)) rfl (fun _ => by kernel_rfl) ?_)
    refine Xg.ops_op (by kernel_rfl) (Xg.opx_load (b := xb2) (off := ((0 : Nat))) 6 (Value.slice (some (Addr.mk xx1.fst (0 : Nat) none)) (12 : Nat) (12 : Nat)) rfl (by kernel_rfl) (by kernel_rfl) (by kernel_rfl) ?_)
    refine Xg.ops_op (by kernel_rfl) (Xg.opx_pure ((iv (↑xx5 : Int))) rfl (fun _ => by kernel_rfl) ?_)
    refine Xg.ops_op (by kernel_rfl) (Xg.opx_pure (pv xx1.fst 10) rfl (fun _ => by kernel_rfl) ?_)
    refine Xg.ops_op (by kernel_rfl) (Xg.opx_store1 (off := 10) 5 (iv (↑xx5 : Int)) (by kernel_rfl) rfl (by kernel_rfl) (by kernel_rfl) (by kernel_rfl) (Nat.le_of_ble_eq_true (by kernel_rfl)) ?_)
    refine Xg.ops_nil ?_
    refine Xg.at_seq ?_
    refine Xg.at_region ?_
    refine Xg.ops_op (by kernel_rfl) (Xg.opx_pure ((pv xb2 0)) rfl (fun _ => by kernel_rfl) ?_)
    refine Xg.ops_op (by kernel_rfl) (Xg.opx_load (b := xb2) (off := ((0 : Nat))) 6 (Value.slice (some (Addr.mk xx1.fst (0 : Nat) none)) (12 : Nat) (12 : Nat)) rfl (by kernel_rfl) (by kernel_rfl) (by kernel_rfl) ?_)
    refine Xg.ops_op (by kernel_rfl) (Xg.opx_pure ((iv ((7 : Int) + (↑xx6 : Int)))) rfl (fun _ => by kernel_rfl) ?_)
    refine Xg.ops_op (by kernel_rfl) (Xg.opx_pure (pv xx1.fst 11) rfl (fun _ => by kernel_rfl) ?_)
    refine Xg.ops_op (by kernel_rfl) (Xg.opx_store1 (off := 11) 5 (iv ((7 : Int) + (↑xx6 : Int))) (by kernel_rfl) rfl (by kernel_rfl) (by kernel_rfl) (by kernel_rfl) (Nat.le_of_ble_eq_true (by kernel_rfl)) ?_)
    refine Xg.ops_nil ?_
    refine Xg.at_seq ?_
    refine Xg.at_region ?_
    refine Xg.ops_op (by kernel_rfl) (Xg.opx_loadn (off := 0) 3 6 [Value.slice (some (Addr.mk xx1.fst (0 : Nat) none)) (12 : Nat) (12 : Nat), Value.slice none (0 : Nat) (0 : Nat), Value.slice s.pa s.pn s.pc] (by kernel_rfl) rfl (by kernel_rfl) rfl (Xg.cells_at (by kernel_rfl)) (by kernel_rfl) ?_)
    refine Xg.ops_op (by kernel_rfl) (Xg.opx_callE' [5, 2] (fun xx7 => [ints (5 : TypeId) IntKind.u8 xx7.fst xx7.snd.fst xx7.snd.snd, rowR xx1.fst (177 : Int) (0 : Int) (↑xx1.snd.fst : Int) (↑xx1.snd.snd : Int) (0 : Int) (0 : Int) (0 : Int) (228 : Int) (0 : Int) (0 : Int) (↑xx5 : Int) ((7 : Int) + (↑xx6 : Int)), A, ints (5 : TypeId) IntKind.u8 xx4.fst xx4.snd.fst xx4.snd.snd, rowR xx3.fst (145 : Int) (0 : Int) (↑xx3.snd.fst : Int) (↑xx3.snd.snd : Int) (0 : Int) (0 : Int) (0 : Int) (228 : Int) (0 : Int) (0 : Int) (0 : Int) (0 : Int), row xb3 (36 : Nat) [Value.slice (some (Addr.mk xx3.fst (0 : Nat) none)) (12 : Nat) (12 : Nat), Value.slice none (0 : Nat) (0 : Nat), Value.slice s.pa s.pn s.pc], ints (5 : TypeId) IntKind.u8 xx2.fst xx2.snd.fst xx2.snd.snd, row xb2 (36 : Nat) [Value.slice (some (Addr.mk xx1.fst (0 : Nat) none)) (12 : Nat) (12 : Nat), Value.slice none (0 : Nat) (0 : Nat), Value.slice s.pa s.pn s.pc], row xb1 (36 : Nat) [Value.slice s.ra s.rn s.rc, Value.slice s.oa s.on s.oc, Value.slice s.pa s.pn s.pc]]) (fun _ => by kernel_rfl) (@hsh (xx1.fst) (xx1.snd.fst) (xx1.snd.snd) (((177 : Int))) (((↑xx5 : Int))) (((7 : Int) + (↑xx6 : Int))) (by omega) (by omega) (by omega) (by omega) (by omega)) (by kernel_rfl) (by kernel_rfl) (by kernel_rfl) fun xx7 xh7 => ?_)
    try dsimp only at xh7
    obtain ⟨xh7_0, xh7_1⟩ := xh7
    refine Xg.ops_op (by kernel_rfl) (Xg.opx_pure ((Value.tuple #[Value.slice xx7.fst xx7.snd.snd.length xx7.snd.fst, Value.bool true])) rfl (fun _ => by kernel_rfl) ?_)
    refine Xg.ops_op (by kernel_rfl) (Xg.opx_pure ((Value.slice xx7.fst xx7.snd.snd.length xx7.snd.fst)) rfl (fun _ => by kernel_rfl) ?_)
    refine Xg.ops_op (by kernel_rfl) (Xg.opx_pure ((Value.bool true)) rfl (fun _ => by kernel_rfl) ?_)
    refine Xg.ops_op (by kernel_rfl) (Xg.opx_pure ((Value.slice xx7.fst xx7.snd.snd.length xx7.snd.fst)) rfl (fun _ => by kernel_rfl) ?_)
    refine Xg.ops_op (by kernel_rfl) (Xg.opx_pure ((Value.bool true)) rfl (fun _ => by kernel_rfl) ?_)
    refine Xg.ops_nil ?_
    refine Xg.at_seq ?_
    refine Xg.at_seq ?_
    refine Xg.at_region ?_
    refine Xg.ops_op (by kernel_rfl) (Xg.opx_pure ((Value.bool true)) rfl (fun _ => by kernel_rfl) ?_)
    refine Xg.ops_op (by kernel_rfl) (Xg.opx_pure (.bool false) rfl (fun _ => by kernel_rfl) ?_)
    refine Xg.ops_op (by kernel_rfl) (Xg.opx_pure ((Value.bool false)) rfl (fun _ => by kernel_rfl) ?_)
    refine Xg.ops_op (by kernel_rfl) (Xg.opx_pure ((Value.bool true)) rfl (fun _ => by kernel_rfl) ?_)
    refine Xg.ops_op (by kernel_rfl) (Xg.opx_pure (.bool false) rfl (fun _ => by kernel_rfl) ?_)
    refine Xg.ops_op (by kernel_rfl) (Xg.opx_pure ((Value.bool false)) rfl (fun _ => by kernel_rfl) ?_)
    refine Xg.ops_op (by kernel_rfl) (Xg.opx_pure ((Value.bool false)) rfl (fun _ => by kernel_rfl) ?_)
    refine Xg.ops_op (by kernel_rfl) (Xg.opx_pure ((Value.bool true)) rfl (fun _ => by kernel_rfl) ?_)
    refine Xg.ops_op (by kernel_rfl) (Xg.opx_pure (.bool false) rfl (fun _ => by kernel_rfl) ?_)
    refine Xg.ops_op (by kernel_rfl) (Xg.opx_pure ((Value.bool false)) rfl (fun _ => by kernel_rfl) ?_)
    refine Xg.ops_nil ?_
    refine Xg.at_false (t := false) (by kernel_rfl) rfl ?_
    refine Xg.at_skip ?_
    refine Xg.at_seq ?_
    refine Xg.at_seq ?_
    refine Xg.at_region ?_
    refine Xg.ops_op (by kernel_rfl) (Xg.opx_pure ((iv 0)) rfl (fun _ => by kernel_rfl) ?_)
    refine Xg.ops_nil ?_
    refine Xg.at_block ?_)
  have z1 : xx3.2.1 = 0 := by rw [show xx3.2.1 = pickN 0 256 by assumption]; rfl
  have z2 : xx3.2.2 = 0 := by rw [show xx3.2.2 = pickN 0 256 by assumption]; rfl
  have hin : ∀ y x : Nat, y < 144 → x < 160 → (y : Int) ≥ xx5 ∧ (x : Int) + 7 ≥ 7 + (xx6 : Int) → xx7.2.2.getD (160 * y + x) 0 = xx4.2.2.getD (160 * (y - xx5) + (x - xx6)) 0 := fun y x hy hx hc => by
    rw [xh7_0.pic y x hy hx, xh4_0.pic (y - xx5) (x - xx6) (by omega) (by omega), plain_pic _ _ _ _ _ _ _ _ _ _ _ _ (by omega) (by omega) (by omega), win_pic _ _ _ _ _ _ _ _ _ _ _ (by omega) (by omega) (by omega) (by omega) _ _ hy, if_pos (by omega), pal228 (groundT_bd _ _ _)]
    rw [show ((y : Int) - (xx5 : Int)) = (((y - xx5 : Nat) : Int) + (xx3.2.1 : Int)) % 256 from by omega, show ((x : Int) + 7 - ((7 : Int) + (xx6 : Int))) = (((x - xx6 : Nat) : Int) + (xx3.2.2 : Int)) % 256 from by omega]
  have hout : ∀ y x : Nat, y < 144 → x < 160 → ¬ ((y : Int) ≥ xx5 ∧ (x : Int) + 7 ≥ 7 + (xx6 : Int)) → xx7.2.2.getD (160 * y + x) 0 = xx2.2.2.getD (160 * y + x) 0 := fun y x hy hx hc => by
    rw [xh7_0.pic y x hy hx, xh2_0.pic y x hy hx, plain_pic _ _ _ _ _ _ _ _ _ _ _ _ (by omega) (by omega) (by omega), win_pic _ _ _ _ _ _ _ _ _ _ _ (by omega) (by omega) (by omega) (by omega) _ _ hy, if_neg (by omega), pal228 (groundT_bd _ _ _)]
  clear hsh hpl
  (focus
    refine Xg.at_rounds_inv (α := (Nat) × (Nat → Value)) (fun x => ((fun x => x ≤ 144) : (Nat) → Prop) x.1) (fun x => ((fun x => 144 - x) : (Nat) → Nat) x.1) (fun x => Xg.headT [Value.agg #[Value.slice s.ra s.rn s.rc, Value.slice s.oa s.on s.oc, Value.slice s.pa s.pn s.pc], iv wy, iv wx, iv scy, iv scx, pv xb1 0, tu, tu, tu, tu, Value.bool false, pv xb2 0, Value.slice xx2.fst xx2.snd.snd.length xx2.snd.fst, Value.bool true, pv xb3 0, Value.slice xx4.fst xx4.snd.snd.length xx4.snd.fst, Value.bool true, iv (↑xx5 : Int), iv ((7 : Int) + (↑xx6 : Int)), Value.slice xx7.fst xx7.snd.snd.length xx7.snd.fst, Value.bool true, iv 0, tu, tu, Value.agg #[Value.slice s.ra s.rn s.rc, Value.slice s.oa s.on s.oc, Value.slice s.pa s.pn s.pc], iv scy, iv scx, Value.agg #[Value.slice (some (Addr.mk xx1.fst (0 : Nat) none)) (12 : Nat) (12 : Nat), Value.slice none (0 : Nat) (0 : Nat), Value.slice s.pa s.pn s.pc], Value.tuple #[Value.slice xx2.fst xx2.snd.snd.length xx2.snd.fst, Value.bool true], Value.agg #[Value.slice (some (Addr.mk xx1.fst (0 : Nat) none)) (12 : Nat) (12 : Nat), Value.slice none (0 : Nat) (0 : Nat), Value.slice s.pa s.pn s.pc], Value.tuple #[Value.slice xx2.fst xx2.snd.snd.length xx2.snd.fst, Value.bool true], Value.slice xx2.fst xx2.snd.snd.length xx2.snd.fst, Value.bool true, Value.agg #[Value.slice s.ra s.rn s.rc, Value.slice s.oa s.on s.oc, Value.slice s.pa s.pn s.pc], Value.agg #[Value.slice (some (Addr.mk xx3.fst (0 : Nat) none)) (12 : Nat) (12 : Nat), Value.slice none (0 : Nat) (0 : Nat), Value.slice s.pa s.pn s.pc], Value.tuple #[Value.slice xx4.fst xx4.snd.snd.length xx4.snd.fst, Value.bool true], Value.agg #[Value.slice (some (Addr.mk xx3.fst (0 : Nat) none)) (12 : Nat) (12 : Nat), Value.slice none (0 : Nat) (0 : Nat), Value.slice s.pa s.pn s.pc], Value.tuple #[Value.slice xx4.fst xx4.snd.snd.length xx4.snd.fst, Value.bool true], Value.slice xx4.fst xx4.snd.snd.length xx4.snd.fst, Value.bool true, iv wy, iv (↑xx5 : Int), iv wx, iv (↑xx6 : Int), iv ((7 : Int) + (↑xx6 : Int)), pv xb2 0, Value.slice (some (Addr.mk xx1.fst (0 : Nat) none)) (12 : Nat) (12 : Nat), pv xx1.fst 0, pv xb2 0, Value.slice (some (Addr.mk xx1.fst (0 : Nat) none)) (12 : Nat) (12 : Nat), iv (↑xx5 : Int), pv xx1.fst 10, pv xb2 0, Value.slice (some (Addr.mk xx1.fst (0 : Nat) none)) (12 : Nat) (12 : Nat), iv ((7 : Int) + (↑xx6 : Int)), pv xx1.fst 11, Value.tuple #[Value.slice xx7.fst xx7.snd.snd.length xx7.snd.fst, Value.bool true], Value.agg #[Value.slice (some (Addr.mk xx1.fst (0 : Nat) none)) (12 : Nat) (12 : Nat), Value.slice none (0 : Nat) (0 : Nat), Value.slice s.pa s.pn s.pc], Value.tuple #[Value.slice xx7.fst xx7.snd.snd.length xx7.snd.fst, Value.bool true], Value.slice xx7.fst xx7.snd.snd.length xx7.snd.fst, Value.bool true, Value.bool true, Value.bool false, Value.bool false, Value.bool true, Value.bool false, Value.bool false, Value.bool false, Value.bool true, Value.bool false, Value.bool false, tu, tu, tu, tu, tu, tu, tu, tu, tu, tu, tu, tu, tu, tu, tu, tu, tu, tu, tu, tu, tu, tu, tu, tu, tu, tu, tu, tu, tu, tu, tu, tu, tu, tu, tu, tu, tu, tu, tu, tu, tu, tu, tu, tu, tu] [10, 22, 23, 71, 72, 73, 74, 75, 76, 77, 78, 79, 80, 81, 82, 83, 84, 85, 86, 87, 88, 89, 90, 91, 92, 93, 94, 95, 96, 97, 98, 99, 100, 101, 102, 103, 104, 105, 106, 107, 108, 109, 110, 111, 112, 113, 114, 115] (((fun x => [(21, .int .i64 (x : Nat))]) : (Nat) → List (Nat × Go.Value)) x.1) x.2) (fun x => ((fun x => [ints 5 .u8 xx7.1 xx7.2.1 xx7.2.2, rowR xx1.1 177 0 (xx1.2.1 : Nat) (xx1.2.2 : Nat) 0 0 0 228 0 0 (xx5 : Nat) ((7 : Int) + (xx6 : Nat)), A, ints 5 .u8 xx4.1 xx4.2.1 xx4.2.2, rowR xx3.1 145 0 (xx3.2.1 : Nat) (xx3.2.2 : Nat) 0 0 0 228 0 0 0 0, row xb3 36 [.slice (some ⟨xx3.1, 0, none⟩) 12 12, .slice none 0 0, .slice s.pa s.pn s.pc], ints 5 .u8 xx2.1 xx2.2.1 xx2.2.2, row xb2 36 [.slice (some ⟨xx1.1, 0, none⟩) 12 12, .slice none 0 0, .slice s.pa s.pn s.pc], row xb1 36 [.slice s.ra s.rn s.rc, .slice s.oa s.on s.oc, .slice s.pa s.pn s.pc]]) : (Nat) → List Go.Sl.HP) x.1) ((0), fun j => ([Value.agg #[Value.slice s.ra s.rn s.rc, Value.slice s.oa s.on s.oc, Value.slice s.pa s.pn s.pc], iv wy, iv wx, iv scy, iv scx, pv xb1 0, tu, tu, tu, tu, Value.bool false, pv xb2 0, Value.slice xx2.fst xx2.snd.snd.length xx2.snd.fst, Value.bool true, pv xb3 0, Value.slice xx4.fst xx4.snd.snd.length xx4.snd.fst, Value.bool true, iv (↑xx5 : Int), iv ((7 : Int) + (↑xx6 : Int)), Value.slice xx7.fst xx7.snd.snd.length xx7.snd.fst, Value.bool true, iv 0, tu, tu, Value.agg #[Value.slice s.ra s.rn s.rc, Value.slice s.oa s.on s.oc, Value.slice s.pa s.pn s.pc], iv scy, iv scx, Value.agg #[Value.slice (some (Addr.mk xx1.fst (0 : Nat) none)) (12 : Nat) (12 : Nat), Value.slice none (0 : Nat) (0 : Nat), Value.slice s.pa s.pn s.pc], Value.tuple #[Value.slice xx2.fst xx2.snd.snd.length xx2.snd.fst, Value.bool true], Value.agg #[Value.slice (some (Addr.mk xx1.fst (0 : Nat) none)) (12 : Nat) (12 : Nat), Value.slice none (0 : Nat) (0 : Nat), Value.slice s.pa s.pn s.pc], Value.tuple #[Value.slice xx2.fst xx2.snd.snd.length xx2.snd.fst, Value.bool true], Value.slice xx2.fst xx2.snd.snd.length xx2.snd.fst, Value.bool true, Value.agg #[Value.slice s.ra s.rn s.rc, Value.slice s.oa s.on s.oc, Value.slice s.pa s.pn s.pc], Value.agg #[Value.slice (some (Addr.mk xx3.fst (0 : Nat) none)) (12 : Nat) (12 : Nat), Value.slice none (0 : Nat) (0 : Nat), Value.slice s.pa s.pn s.pc], Value.tuple #[Value.slice xx4.fst xx4.snd.snd.length xx4.snd.fst, Value.bool true], Value.agg #[Value.slice (some (Addr.mk xx3.fst (0 : Nat) none)) (12 : Nat) (12 : Nat), Value.slice none (0 : Nat) (0 : Nat), Value.slice s.pa s.pn s.pc], Value.tuple #[Value.slice xx4.fst xx4.snd.snd.length xx4.snd.fst, Value.bool true], Value.slice xx4.fst xx4.snd.snd.length xx4.snd.fst, Value.bool true, iv wy, iv (↑xx5 : Int), iv wx, iv (↑xx6 : Int), iv ((7 : Int) + (↑xx6 : Int)), pv xb2 0, Value.slice (some (Addr.mk xx1.fst (0 : Nat) none)) (12 : Nat) (12 : Nat), pv xx1.fst 0, pv xb2 0, Value.slice (some (Addr.mk xx1.fst (0 : Nat) none)) (12 : Nat) (12 : Nat), iv (↑xx5 : Int), pv xx1.fst 10, pv xb2 0, Value.slice (some (Addr.mk xx1.fst (0 : Nat) none)) (12 : Nat) (12 : Nat), iv ((7 : Int) + (↑xx6 : Int)), pv xx1.fst 11, Value.tuple #[Value.slice xx7.fst xx7.snd.snd.length xx7.snd.fst, Value.bool true], Value.agg #[Value.slice (some (Addr.mk xx1.fst (0 : Nat) none)) (12 : Nat) (12 : Nat), Value.slice none (0 : Nat) (0 : Nat), Value.slice s.pa s.pn s.pc], Value.tuple #[Value.slice xx7.fst xx7.snd.snd.length xx7.snd.fst, Value.bool true], Value.slice xx7.fst xx7.snd.snd.length xx7.snd.fst, Value.bool true, Value.bool true, Value.bool false, Value.bool false, Value.bool true, Value.bool false, Value.bool false, Value.bool false, Value.bool true, Value.bool false, Value.bool false, tu, tu, tu, tu, tu, tu, tu, tu, tu, tu, tu, tu, tu, tu, tu, tu, tu, tu, tu, tu, tu, tu, tu, tu, tu, tu, tu, tu, tu, tu, tu, tu, tu, tu, tu, tu, tu, tu, tu, tu, tu, tu, tu, tu, tu] : List Value).getD j undef) (by kernel_rfl) (by kernel_rfl) ?_ ?_)
  · exact Nat.zero_le _
  rintro ⟨y, J⟩ hy ih
  dsimp only at hy
  (focus
    refine Xg.At.same (T' := [Value.agg #[Value.slice s.ra s.rn s.rc, Value.slice s.oa s.on s.oc, Value.slice s.pa s.pn s.pc], iv wy, iv wx, iv scy, iv scx, pv xb1 0, tu, tu, tu, tu, J 10, pv xb2 0, Value.slice xx2.fst xx2.snd.snd.length xx2.snd.fst, Value.bool true, pv xb3 0, Value.slice xx4.fst xx4.snd.snd.length xx4.snd.fst, Value.bool true, iv (↑xx5 : Int), iv ((7 : Int) + (↑xx6 : Int)), Value.slice xx7.fst xx7.snd.snd.length xx7.snd.fst, Value.bool true, iv (↑y : Int), J 22, J 23, Value.agg #[Value.slice s.ra s.rn s.rc, Value.slice s.oa s.on s.oc, Value.slice s.pa s.pn s.pc], iv scy, iv scx, Value.agg #[Value.slice (some (Addr.mk xx1.fst (0 : Nat) none)) (12 : Nat) (12 : Nat), Value.slice none (0 : Nat) (0 : Nat), Value.slice s.pa s.pn s.pc], Value.tuple #[Value.slice xx2.fst xx2.snd.snd.length xx2.snd.fst, Value.bool true], Value.agg #[Value.slice (some (Addr.mk xx1.fst (0 : Nat) none)) (12 : Nat) (12 : Nat), Value.slice none (0 : Nat) (0 : Nat), Value.slice s.pa s.pn s.pc], Value.tuple #[Value.slice xx2.fst xx2.snd.snd.length xx2.snd.fst, Value.bool true], Value.slice xx2.fst xx2.snd.snd.length xx2.snd.fst, Value.bool true, Value.agg #[Value.slice s.ra s.rn s.rc, Value.slice s.oa s.on s.oc, Value.slice s.pa s.pn s.pc], Value.agg #[Value.slice (some (Addr.mk xx3.fst (0 : Nat) none)) (12 : Nat) (12 : Nat), Value.slice none (0 : Nat) (0 : Nat), Value.slice s.pa s.pn s.pc], Value.tuple #[Value.slice xx4.fst xx4.snd.snd.length xx4.snd.fst, Value.bool true], Value.agg #[Value.slice (some (Addr.mk xx3.fst (0 : Nat) none)) (12 : Nat) (12 : Nat), Value.slice none (0 : Nat) (0 : Nat), Value.slice s.pa s.pn s.pc], Value.tuple #[Value.slice xx4.fst xx4.snd.snd.length xx4.snd.fst, Value.bool true], Value.slice xx4.fst xx4.snd.snd.length xx4.snd.fst, Value.bool true, iv wy, iv (↑xx5 : Int), iv wx, iv (↑xx6 : Int), iv ((7 : Int) + (↑xx6 : Int)), pv xb2 0, Value.slice (some (Addr.mk xx1.fst (0 : Nat) none)) (12 : Nat) (12 : Nat), pv xx1.fst 0, pv xb2 0, Value.slice (some (Addr.mk xx1.fst (0 : Nat) none)) (12 : Nat) (12 : Nat), iv (↑xx5 : Int), pv xx1.fst 10, pv xb2 0, Value.slice (some (Addr.mk xx1.fst (0 : Nat) none)) (12 : Nat) (12 : Nat), iv ((7 : Int) + (↑xx6 : Int)), pv xx1.fst 11, Value.tuple #[Value.slice xx7.fst xx7.snd.snd.length xx7.snd.fst, Value.bool true], Value.agg #[Value.slice (some (Addr.mk xx1.fst (0 : Nat) none)) (12 : Nat) (12 : Nat), Value.slice none (0 : Nat) (0 : Nat), Value.slice s.pa s.pn s.pc], Value.tuple #[Value.slice xx7.fst xx7.snd.snd.length xx7.snd.fst, Value.bool true], Value.slice xx7.fst xx7.snd.snd.length xx7.snd.fst, Value.bool true, Value.bool true, Value.bool false, Value.bool false, Value.bool true, Value.bool false, Value.bool false, Value.bool false, Value.bool true, Value.bool false, Value.bool false, J 71, J 72, J 73, J 74, J 75, J 76, J 77, J 78, J 79, J 80, J 81, J 82, J 83, J 84, J 85, J 86, J 87, J 88, J 89, J 90, J 91, J 92, J 93, J 94, J 95, J 96, J 97, J 98, J 99, J 100, J 101, J 102, J 103, J 104, J 105, J 106, J 107, J 108, J 109, J 110, J 111, J 112, J 113, J 114, J 115]) (L' := [ints (5 : TypeId) IntKind.u8 xx7.fst xx7.snd.fst xx7.snd.snd, rowR xx1.fst (177 : Int) (0 : Int) (↑xx1.snd.fst : Int) (↑xx1.snd.snd : Int) (0 : Int) (0 : Int) (0 : Int) (228 : Int) (0 : Int) (0 : Int) (↑xx5 : Int) ((7 : Int) + (↑xx6 : Int)), A, ints (5 : TypeId) IntKind.u8 xx4.fst xx4.snd.fst xx4.snd.snd, rowR xx3.fst (145 : Int) (0 : Int) (↑xx3.snd.fst : Int) (↑xx3.snd.snd : Int) (0 : Int) (0 : Int) (0 : Int) (228 : Int) (0 : Int) (0 : Int) (0 : Int) (0 : Int), row xb3 (36 : TypeId) [Value.slice (some (Addr.mk xx3.fst (0 : Nat) none)) (12 : Nat) (12 : Nat), Value.slice none (0 : Nat) (0 : Nat), Value.slice s.pa s.pn s.pc], ints (5 : TypeId) IntKind.u8 xx2.fst xx2.snd.fst xx2.snd.snd, row xb2 (36 : TypeId) [Value.slice (some (Addr.mk xx1.fst (0 : Nat) none)) (12 : Nat) (12 : Nat), Value.slice none (0 : Nat) (0 : Nat), Value.slice s.pa s.pn s.pc], row xb1 (36 : TypeId) [Value.slice s.ra s.rn s.rc, Value.slice s.oa s.on s.oc, Value.slice s.pa s.pn s.pc]]) (by kernel_rfl) rfl ?_)
  by_cases hlt : y < 144
  · (focus
      refine Xg.at_seq ?_
      refine Xg.at_seq ?_
      refine Xg.at_region ?_
      refine Xg.ops_op (by kernel_rfl) (Xg.opx_pure ((iv (↑y : Int))) rfl (fun _ => by kernel_rfl) ?_)
      refine Xg.ops_op (by kernel_rfl) (Xg.opx_pure (.bool (decide ((((↑y : Int)) : Int) < ((144 : Int))))) rfl (fun _ => by kernel_rfl) ?_)
      refine Xg.ops_nil ?_
      refine Xg.at_true (t := decide (((↑y : Int) < (144 : Int)))) (by kernel_rfl) (decide_eq_true (by omega)) ?_
      refine Xg.at_skip ?_
      refine Xg.at_seq ?_
      refine Xg.at_block ?_
      refine Xg.at_seq ?_
      refine Xg.at_region ?_
      refine Xg.ops_op (by kernel_rfl) (Xg.opx_pure ((iv 0)) rfl (fun _ => by kernel_rfl) ?_)
      refine Xg.ops_nil ?_
      refine Xg.at_block ?_)
    (focus
      refine Xg.at_rounds_inv (α := (Nat) × (Nat → Value)) (fun x => ((fun x => x ≤ 160) : (Nat) → Prop) x.1) (fun x => ((fun x => 160 - x) : (Nat) → Nat) x.1) (fun x => Xg.headT [Value.agg #[Value.slice s.ra s.rn s.rc, Value.slice s.oa s.on s.oc, Value.slice s.pa s.pn s.pc], iv wy, iv wx, iv scy, iv scx, pv xb1 0, tu, tu, tu, tu, J 10, pv xb2 0, Value.slice xx2.fst xx2.snd.snd.length xx2.snd.fst, Value.bool true, pv xb3 0, Value.slice xx4.fst xx4.snd.snd.length xx4.snd.fst, Value.bool true, iv (↑xx5 : Int), iv ((7 : Int) + (↑xx6 : Int)), Value.slice xx7.fst xx7.snd.snd.length xx7.snd.fst, Value.bool true, iv (↑y : Int), iv 0, J 23, Value.agg #[Value.slice s.ra s.rn s.rc, Value.slice s.oa s.on s.oc, Value.slice s.pa s.pn s.pc], iv scy, iv scx, Value.agg #[Value.slice (some (Addr.mk xx1.fst (0 : Nat) none)) (12 : Nat) (12 : Nat), Value.slice none (0 : Nat) (0 : Nat), Value.slice s.pa s.pn s.pc], Value.tuple #[Value.slice xx2.fst xx2.snd.snd.length xx2.snd.fst, Value.bool true], Value.agg #[Value.slice (some (Addr.mk xx1.fst (0 : Nat) none)) (12 : Nat) (12 : Nat), Value.slice none (0 : Nat) (0 : Nat), Value.slice s.pa s.pn s.pc], Value.tuple #[Value.slice xx2.fst xx2.snd.snd.length xx2.snd.fst, Value.bool true], Value.slice xx2.fst xx2.snd.snd.length xx2.snd.fst, Value.bool true, Value.agg #[Value.slice s.ra s.rn s.rc, Value.slice s.oa s.on s.oc, Value.slice s.pa s.pn s.pc], Value.agg #[Value.slice (some (Addr.mk xx3.fst (0 : Nat) none)) (12 : Nat) (12 : Nat), Value.slice none (0 : Nat) (0 : Nat), Value.slice s.pa s.pn s.pc], Value.tuple #[Value.slice xx4.fst xx4.snd.snd.length xx4.snd.fst, Value.bool true], Value.agg #[Value.slice (some (Addr.mk xx3.fst (0 : Nat) none)) (12 : Nat) (12 : Nat), Value.slice none (0 : Nat) (0 : Nat), Value.slice s.pa s.pn s.pc], Value.tuple #[Value.slice xx4.fst xx4.snd.snd.length xx4.snd.fst, Value.bool true], Value.slice xx4.fst xx4.snd.snd.length xx4.snd.fst, Value.bool true, iv wy, iv (↑xx5 : Int), iv wx, iv (↑xx6 : Int), iv ((7 : Int) + (↑xx6 : Int)), pv xb2 0, Value.slice (some (Addr.mk xx1.fst (0 : Nat) none)) (12 : Nat) (12 : Nat), pv xx1.fst 0, pv xb2 0, Value.slice (some (Addr.mk xx1.fst (0 : Nat) none)) (12 : Nat) (12 : Nat), iv (↑xx5 : Int), pv xx1.fst 10, pv xb2 0, Value.slice (some (Addr.mk xx1.fst (0 : Nat) none)) (12 : Nat) (12 : Nat), iv ((7 : Int) + (↑xx6 : Int)), pv xx1.fst 11, Value.tuple #[Value.slice xx7.fst xx7.snd.snd.length xx7.snd.fst, Value.bool true], Value.agg #[Value.slice (some (Addr.mk xx1.fst (0 : Nat) none)) (12 : Nat) (12 : Nat), Value.slice none (0 : Nat) (0 : Nat), Value.slice s.pa s.pn s.pc], Value.tuple #[Value.slice xx7.fst xx7.snd.snd.length xx7.snd.fst, Value.bool true], Value.slice xx7.fst xx7.snd.snd.length xx7.snd.fst, Value.bool true, Value.bool true, Value.bool false, Value.bool false, Value.bool true, Value.bool false, Value.bool false, Value.bool false, Value.bool true, Value.bool false, Value.bool false, iv (↑y : Int), Value.bool (decide ((↑y : Int) < (144 : Int))), J 73, J 74, J 75, J 76, J 77, J 78, J 79, J 80, J 81, J 82, J 83, J 84, J 85, J 86, J 87, J 88, J 89, J 90, J 91, J 92, J 93, J 94, J 95, J 96, J 97, J 98, J 99, J 100, J 101, J 102, J 103, J 104, J 105, J 106, J 107, J 108, J 109, J 110, J 111, J 112, J 113, J 114, J 115] [10, 23, 75, 76, 77, 78, 79, 80, 81, 82, 83, 84, 85, 86, 87, 88, 89, 90, 91, 92, 93, 94, 95, 96, 97, 98, 99, 100, 101, 102, 103, 104, 105, 106, 107, 108, 109, 110, 111, 112, 113, 114, 115] (((fun x => [(22, .int .i64 (x : Nat))]) : (Nat) → List (Nat × Go.Value)) x.1) x.2) (fun x => ((fun x => [ints 5 .u8 xx7.1 xx7.2.1 xx7.2.2, rowR xx1.1 177 0 (xx1.2.1 : Nat) (xx1.2.2 : Nat) 0 0 0 228 0 0 (xx5 : Nat) ((7 : Int) + (xx6 : Nat)), A, ints 5 .u8 xx4.1 xx4.2.1 xx4.2.2, rowR xx3.1 145 0 (xx3.2.1 : Nat) (xx3.2.2 : Nat) 0 0 0 228 0 0 0 0, row xb3 36 [.slice (some ⟨xx3.1, 0, none⟩) 12 12, .slice none 0 0, .slice s.pa s.pn s.pc], ints 5 .u8 xx2.1 xx2.2.1 xx2.2.2, row xb2 36 [.slice (some ⟨xx1.1, 0, none⟩) 12 12, .slice none 0 0, .slice s.pa s.pn s.pc], row xb1 36 [.slice s.ra s.rn s.rc, .slice s.oa s.on s.oc, .slice s.pa s.pn s.pc]]) : (Nat) → List Go.Sl.HP) x.1) ((0), fun j => ([Value.agg #[Value.slice s.ra s.rn s.rc, Value.slice s.oa s.on s.oc, Value.slice s.pa s.pn s.pc], iv wy, iv wx, iv scy, iv scx, pv xb1 0, tu, tu, tu, tu, J 10, pv xb2 0, Value.slice xx2.fst xx2.snd.snd.length xx2.snd.fst, Value.bool true, pv xb3 0, Value.slice xx4.fst xx4.snd.snd.length xx4.snd.fst, Value.bool true, iv (↑xx5 : Int), iv ((7 : Int) + (↑xx6 : Int)), Value.slice xx7.fst xx7.snd.snd.length xx7.snd.fst, Value.bool true, iv (↑y : Int), iv 0, J 23, Value.agg #[Value.slice s.ra s.rn s.rc, Value.slice s.oa s.on s.oc, Value.slice s.pa s.pn s.pc], iv scy, iv scx, Value.agg #[Value.slice (some (Addr.mk xx1.fst (0 : Nat) none)) (12 : Nat) (12 : Nat), Value.slice none (0 : Nat) (0 : Nat), Value.slice s.pa s.pn s.pc], Value.tuple #[Value.slice xx2.fst xx2.snd.snd.length xx2.snd.fst, Value.bool true], Value.agg #[Value.slice (some (Addr.mk xx1.fst (0 : Nat) none)) (12 : Nat) (12 : Nat), Value.slice none (0 : Nat) (0 : Nat), Value.slice s.pa s.pn s.pc], Value.tuple #[Value.slice xx2.fst xx2.snd.snd.length xx2.snd.fst, Value.bool true], Value.slice xx2.fst xx2.snd.snd.length xx2.snd.fst, Value.bool true, Value.agg #[Value.slice s.ra s.rn s.rc, Value.slice s.oa s.on s.oc, Value.slice s.pa s.pn s.pc], Value.agg #[Value.slice (some (Addr.mk xx3.fst (0 : Nat) none)) (12 : Nat) (12 : Nat), Value.slice none (0 : Nat) (0 : Nat), Value.slice s.pa s.pn s.pc], Value.tuple #[Value.slice xx4.fst xx4.snd.snd.length xx4.snd.fst, Value.bool true], Value.agg #[Value.slice (some (Addr.mk xx3.fst (0 : Nat) none)) (12 : Nat) (12 : Nat), Value.slice none (0 : Nat) (0 : Nat), Value.slice s.pa s.pn s.pc], Value.tuple #[Value.slice xx4.fst xx4.snd.snd.length xx4.snd.fst, Value.bool true], Value.slice xx4.fst xx4.snd.snd.length xx4.snd.fst, Value.bool true, iv wy, iv (↑xx5 : Int), iv wx, iv (↑xx6 : Int), iv ((7 : Int) + (↑xx6 : Int)), pv xb2 0, Value.slice (some (Addr.mk xx1.fst (0 : Nat) none)) (12 : Nat) (12 : Nat), pv xx1.fst 0, pv xb2 0, Value.slice (some (Addr.mk xx1.fst (0 : Nat) none)) (12 : Nat) (12 : Nat), iv (↑xx5 : Int), pv xx1.fst 10, pv xb2 0, Value.slice (some (Addr.mk xx1.fst (0 : Nat) none)) (12 : Nat) (12 : Nat), iv ((7 : Int) + (↑xx6 : Int)), pv xx1.fst 11, Value.tuple #[Value.slice xx7.fst xx7.snd.snd.length xx7.snd.fst, Value.bool true], Value.agg #[Value.slice (some (Addr.mk xx1.fst (0 : Nat) none)) (12 : Nat) (12 : Nat), Value.slice none (0 : Nat) (0 : Nat), Value.slice s.pa s.pn s.pc], Value.tuple #[Value.slice xx7.fst xx7.snd.snd.length xx7.snd.fst, Value.bool true], Value.slice xx7.fst xx7.snd.snd.length xx7.snd.fst, Value.bool true, Value.bool true, Value.bool false, Value.bool false, Value.bool true, Value.bool false, Value.bool false, Value.bool false, Value.bool true, Value.bool false, Value.bool false, iv (↑y : Int), Value.bool (decide ((↑y : Int) < (144 : Int))), J 73, J 74, J 75, J 76, J 77, J 78, J 79, J 80, J 81, J 82, J 83, J 84, J 85, J 86, J 87, J 88, J 89, J 90, J 91, J 92, J 93, J 94, J 95, J 96, J 97, J 98, J 99, J 100, J 101, J 102, J 103, J 104, J 105, J 106, J 107, J 108, J 109, J 110, J 111, J 112, J 113, J 114, J 115] : List Value).getD j undef) (by kernel_rfl) (by kernel_rfl) ?_ ?_)
    · exact Nat.zero_le _
    rintro ⟨x, J2⟩ hx ih2
    dsimp only at hx
    (focus
      refine Xg.At.same (T' := [Value.agg #[Value.slice s.ra s.rn s.rc, Value.slice s.oa s.on s.oc, Value.slice s.pa s.pn s.pc], iv wy, iv wx, iv scy, iv scx, pv xb1 0, tu, tu, tu, tu, J2 10, pv xb2 0, Value.slice xx2.fst xx2.snd.snd.length xx2.snd.fst, Value.bool true, pv xb3 0, Value.slice xx4.fst xx4.snd.snd.length xx4.snd.fst, Value.bool true, iv (↑xx5 : Int), iv ((7 : Int) + (↑xx6 : Int)), Value.slice xx7.fst xx7.snd.snd.length xx7.snd.fst, Value.bool true, iv (↑y : Int), iv (↑x : Int), J2 23, Value.agg #[Value.slice s.ra s.rn s.rc, Value.slice s.oa s.on s.oc, Value.slice s.pa s.pn s.pc], iv scy, iv scx, Value.agg #[Value.slice (some (Addr.mk xx1.fst (0 : Nat) none)) (12 : Nat) (12 : Nat), Value.slice none (0 : Nat) (0 : Nat), Value.slice s.pa s.pn s.pc], Value.tuple #[Value.slice xx2.fst xx2.snd.snd.length xx2.snd.fst, Value.bool true], Value.agg #[Value.slice (some (Addr.mk xx1.fst (0 : Nat) none)) (12 : Nat) (12 : Nat), Value.slice none (0 : Nat) (0 : Nat), Value.slice s.pa s.pn s.pc], Value.tuple #[Value.slice xx2.fst xx2.snd.snd.length xx2.snd.fst, Value.bool true], Value.slice xx2.fst xx2.snd.snd.length xx2.snd.fst, Value.bool true, Value.agg #[Value.slice s.ra s.rn s.rc, Value.slice s.oa s.on s.oc, Value.slice s.pa s.pn s.pc], Value.agg #[Value.slice (some (Addr.mk xx3.fst (0 : Nat) none)) (12 : Nat) (12 : Nat), Value.slice none (0 : Nat) (0 : Nat), Value.slice s.pa s.pn s.pc], Value.tuple #[Value.slice xx4.fst xx4.snd.snd.length xx4.snd.fst, Value.bool true], Value.agg #[Value.slice (some (Addr.mk xx3.fst (0 : Nat) none)) (12 : Nat) (12 : Nat), Value.slice none (0 : Nat) (0 : Nat), Value.slice s.pa s.pn s.pc], Value.tuple #[Value.slice xx4.fst xx4.snd.snd.length xx4.snd.fst, Value.bool true], Value.slice xx4.fst xx4.snd.snd.length xx4.snd.fst, Value.bool true, iv wy, iv (↑xx5 : Int), iv wx, iv (↑xx6 : Int), iv ((7 : Int) + (↑xx6 : Int)), pv xb2 0, Value.slice (some (Addr.mk xx1.fst (0 : Nat) none)) (12 : Nat) (12 : Nat), pv xx1.fst 0, pv xb2 0, Value.slice (some (Addr.mk xx1.fst (0 : Nat) none)) (12 : Nat) (12 : Nat), iv (↑xx5 : Int), pv xx1.fst 10, pv xb2 0, Value.slice (some (Addr.mk xx1.fst (0 : Nat) none)) (12 : Nat) (12 : Nat), iv ((7 : Int) + (↑xx6 : Int)), pv xx1.fst 11, Value.tuple #[Value.slice xx7.fst xx7.snd.snd.length xx7.snd.fst, Value.bool true], Value.agg #[Value.slice (some (Addr.mk xx1.fst (0 : Nat) none)) (12 : Nat) (12 : Nat), Value.slice none (0 : Nat) (0 : Nat), Value.slice s.pa s.pn s.pc], Value.tuple #[Value.slice xx7.fst xx7.snd.snd.length xx7.snd.fst, Value.bool true], Value.slice xx7.fst xx7.snd.snd.length xx7.snd.fst, Value.bool true, Value.bool true, Value.bool false, Value.bool false, Value.bool true, Value.bool false, Value.bool false, Value.bool false, Value.bool true, Value.bool false, Value.bool false, iv (↑y : Int), Value.bool (decide ((↑y : Int) < (144 : Int))), J 73, J 74, J2 75, J2 76, J2 77, J2 78, J2 79, J2 80, J2 81, J2 82, J2 83, J2 84, J2 85, J2 86, J2 87, J2 88, J2 89, J2 90, J2 91, J2 92, J2 93, J2 94, J2 95, J2 96, J2 97, J2 98, J2 99, J2 100, J2 101, J2 102, J2 103, J2 104, J2 105, J2 106, J2 107, J2 108, J2 109, J2 110, J2 111, J2 112, J2 113, J2 114, J2 115]) (L' := [ints (5 : TypeId) IntKind.u8 xx7.fst xx7.snd.fst xx7.snd.snd, rowR xx1.fst (177 : Int) (0 : Int) (↑xx1.snd.fst : Int) (↑xx1.snd.snd : Int) (0 : Int) (0 : Int) (0 : Int) (228 : Int) (0 : Int) (0 : Int) (↑xx5 : Int) ((7 : Int) + (↑xx6 : Int)), A, ints (5 : TypeId) IntKind.u8 xx4.fst xx4.snd.fst xx4.snd.snd, rowR xx3.fst (145 : Int) (0 : Int) (↑xx3.snd.fst : Int) (↑xx3.snd.snd : Int) (0 : Int) (0 : Int) (0 : Int) (228 : Int) (0 : Int) (0 : Int) (0 : Int) (0 : Int), row xb3 (36 : TypeId) [Value.slice (some (Addr.mk xx3.fst (0 : Nat) none)) (12 : Nat) (12 : Nat), Value.slice none (0 : Nat) (0 : Nat), Value.slice s.pa s.pn s.pc], ints (5 : TypeId) IntKind.u8 xx2.fst xx2.snd.fst xx2.snd.snd, row xb2 (36 : TypeId) [Value.slice (some (Addr.mk xx1.fst (0 : Nat) none)) (12 : Nat) (12 : Nat), Value.slice none (0 : Nat) (0 : Nat), Value.slice s.pa s.pn s.pc], row xb1 (36 : TypeId) [Value.slice s.ra s.rn s.rc, Value.slice s.oa s.on s.oc, Value.slice s.pa s.pn s.pc]]) (by kernel_rfl) rfl ?_)
    by_cases hlt2 : x < 160
    · by_cases hc : (y : Int) ≥ xx5 ∧ (x : Int) + 7 ≥ 7 + (xx6 : Int)
      · obtain ⟨hc1, hc2⟩ := hc
        have he : xx7.2.2.getD ((y : Int) * 160 + (x : Int)).toNat 0 = xx4.2.2.getD (((y : Int) - (xx5 : Int)) * 160 + (x : Int) + 7 - (7 + (xx6 : Int))).toNat 0 := by
          rw [show ((y : Int) * 160 + (x : Int)).toNat = 160 * y + x from by omega, show (((y : Int) - (xx5 : Int)) * 160 + (x : Int) + 7 - (7 + (xx6 : Int))).toNat = 160 * (y - xx5) + (x - xx6) from by omega]
          exact hin y x hlt hlt2 ⟨hc1, hc2⟩
        (focus
          refine Xg.at_seq ?_
          refine Xg.at_seq ?_
          refine Xg.at_region ?_
          refine Xg.ops_op (by kernel_rfl) (Xg.opx_pure ((iv (↑x : Int))) rfl (fun _ => by kernel_rfl) ?_)
          refine Xg.ops_op (by kernel_rfl) (Xg.opx_pure (.bool (decide ((((↑x : Int)) : Int) < ((160 : Int))))) rfl (fun _ => by kernel_rfl) ?_)
          refine Xg.ops_nil ?_
          refine Xg.at_true (t := decide (((↑x : Int) < (160 : Int)))) (by kernel_rfl) (decide_eq_true (by omega)) ?_
          refine Xg.at_skip ?_
          refine Xg.at_seq ?_
          refine Xg.at_block ?_
          refine Xg.at_seq ?_
          refine Xg.at_region ?_
          refine Xg.ops_op (by kernel_rfl) (Xg.opx_pure ((Value.slice xx2.fst xx2.snd.snd.length xx2.snd.fst)) rfl (fun _ => by kernel_rfl) ?_)
          refine Xg.ops_op (by kernel_rfl) (Xg.opx_pure ((iv (↑y : Int))) rfl (fun _ => by kernel_rfl) ?_)
          refine Xg.ops_op (by kernel_rfl) (Xg.opx_int .i64 (IntKind.wrap .i64 (((↑y : Int) * (160 : Int)))) rfl (fun _ => by kernel_rfl) (Xg.wrap_i64_in (by omega)) ?_)
          refine Xg.ops_op (by kernel_rfl) (Xg.opx_pure ((iv (↑x : Int))) rfl (fun _ => by kernel_rfl) ?_)
          refine Xg.ops_op (by kernel_rfl) (Xg.opx_int .i64 (IntKind.wrap .i64 (((↑y : Int) * (160 : Int) + (↑x : Int)))) rfl (fun _ => by kernel_rfl) (Xg.wrap_i64_in (by omega)) ?_)
          refine Xg.ops_op (by kernel_rfl) (Xg.opx_ix_own (elem := 5) (kd := .i64) (e := ((↑y : Int) * (160 : Int) + (↑x : Int))) 6 1 (((↑y : Int) * (160 : Int) + (↑x : Int)).toNat) (((↑y : Int) * (160 : Int) + (↑x : Int)).toNat) rfl (by kernel_rfl) (by kernel_rfl) (by kernel_rfl) (by kernel_rfl) (by omega) (by omega) (by omega) ?_)
          refine Xg.ops_op (by kernel_rfl) (Xg.opx_load_own (a := xx2.fst) (off := (((↑y : Int) * (160 : Int) + (↑x : Int)).toNat)) 6 (uv (xx2.snd.snd.getD ((↑y : Int) * (160 : Int) + (↑x : Int)).toNat (0 : Int))) rfl (by kernel_rfl) (Xg.get_ints (by omega)) (by kernel_rfl) ?_)
          refine Xg.ops_op (by kernel_rfl) (Xg.opx_pure ((uv (xx2.snd.snd.getD ((↑y : Int) * (160 : Int) + (↑x : Int)).toNat (0 : Int)))) rfl (fun _ => by kernel_rfl) ?_)
          refine Xg.ops_nil ?_
          refine Xg.at_seq ?_
          refine Xg.at_seq ?_
          refine Xg.at_region ?_
          refine Xg.ops_op (by kernel_rfl) (Xg.opx_pure ((iv (↑y : Int))) rfl (fun _ => by kernel_rfl) ?_)
          refine Xg.ops_op (by kernel_rfl) (Xg.opx_pure ((iv (↑xx5 : Int))) rfl (fun _ => by kernel_rfl) ?_)
          refine Xg.ops_op (by kernel_rfl) (Xg.opx_pure (.bool (decide ((((↑y : Int)) : Int) ≥ ((↑xx5 : Int))))) rfl (fun _ => by kernel_rfl) ?_)
          refine Xg.ops_op (by kernel_rfl) (Xg.opx_pure ((Value.bool (decide ((↑y : Int) ≥ (↑xx5 : Int))))) rfl (fun _ => by kernel_rfl) ?_)
          refine Xg.ops_flag (j := 89) (c := (decide ((↑y : Int) ≥ (↑xx5 : Int)))) (by kernel_rfl) (fun _ => ?_) (fun xh8 => absurd (of_decide_eq_false xh8) (by omega))
          refine Xg.ops_op (by kernel_rfl) (Xg.opx_pure ((iv (↑x : Int))) rfl (fun _ => by kernel_rfl) ?_)
          refine Xg.ops_op (by kernel_rfl) (Xg.opx_int .i64 (IntKind.wrap .i64 (((↑x : Int) + (7 : Int)))) rfl (fun _ => by kernel_rfl) (Xg.wrap_i64_in (by omega)) ?_)
          refine Xg.ops_op (by kernel_rfl) (Xg.opx_pure ((iv ((7 : Int) + (↑xx6 : Int)))) rfl (fun _ => by kernel_rfl) ?_)
          refine Xg.ops_op (by kernel_rfl) (Xg.opx_pure (.bool (decide ((((↑x : Int) + (7 : Int)) : Int) ≥ ((7 : Int) + (↑xx6 : Int))))) rfl (fun _ => by kernel_rfl) ?_)
          refine Xg.ops_flag (j := 93) (c := (decide ((↑x : Int) + (7 : Int) ≥ (7 : Int) + (↑xx6 : Int)))) (by kernel_rfl) (fun _ => ?_) (fun xh8 => absurd (of_decide_eq_false xh8) (by omega))
          refine Xg.ops_op (by kernel_rfl) (Xg.opx_pure ((Value.bool true)) rfl (fun _ => by kernel_rfl) ?_)
          refine Xg.ops_nil ?_
          refine Xg.at_true (t := true) (by kernel_rfl) rfl ?_
          refine Xg.at_region ?_
          refine Xg.ops_op (by kernel_rfl) (Xg.opx_pure ((Value.slice xx4.fst xx4.snd.snd.length xx4.snd.fst)) rfl (fun _ => by kernel_rfl) ?_)
          refine Xg.ops_op (by kernel_rfl) (Xg.opx_pure ((iv (↑y : Int))) rfl (fun _ => by kernel_rfl) ?_)
          refine Xg.ops_op (by kernel_rfl) (Xg.opx_pure ((iv (↑xx5 : Int))) rfl (fun _ => by kernel_rfl) ?_)
          refine Xg.ops_op (by kernel_rfl) (Xg.opx_int .i64 (IntKind.wrap .i64 (((↑y : Int) - (↑xx5 : Int)))) rfl (fun _ => by kernel_rfl) (Xg.wrap_i64_in (by omega)) ?_)
          refine Xg.ops_op (by kernel_rfl) (Xg.opx_int .i64 (IntKind.wrap .i64 ((((↑y : Int) - (↑xx5 : Int)) * (160 : Int)))) rfl (fun _ => by kernel_rfl) (Xg.wrap_i64_in (by omega)) ?_)
          refine Xg.ops_op (by kernel_rfl) (Xg.opx_pure ((iv (↑x : Int))) rfl (fun _ => by kernel_rfl) ?_)
          refine Xg.ops_op (by kernel_rfl) (Xg.opx_int .i64 (IntKind.wrap .i64 ((((↑y : Int) - (↑xx5 : Int)) * (160 : Int) + (↑x : Int)))) rfl (fun _ => by kernel_rfl) (Xg.wrap_i64_in (by omega)) ?_)
          refine Xg.ops_op (by kernel_rfl) (Xg.opx_int .i64 (IntKind.wrap .i64 ((((↑y : Int) - (↑xx5 : Int)) * (160 : Int) + (↑x : Int) + (7 : Int)))) rfl (fun _ => by kernel_rfl) (Xg.wrap_i64_in (by omega)) ?_)
          refine Xg.ops_op (by kernel_rfl) (Xg.opx_pure ((iv ((7 : Int) + (↑xx6 : Int)))) rfl (fun _ => by kernel_rfl) ?_)
          refine Xg.ops_op (by kernel_rfl) (Xg.opx_int .i64 (IntKind.wrap .i64 ((((↑y : Int) - (↑xx5 : Int)) * (160 : Int) + (↑x : Int) + (7 : Int) - ((7 : Int) + (↑xx6 : Int))))) rfl (fun _ => by kernel_rfl) (Xg.wrap_i64_in (by omega)) ?_)
          refine Xg.ops_op (by kernel_rfl) (Xg.opx_ix_own (elem := 5) (kd := .i64) (e := (((↑y : Int) - (↑xx5 : Int)) * (160 : Int) + (↑x : Int) + (7 : Int) - ((7 : Int) + (↑xx6 : Int)))) 3 1 ((((↑y : Int) - (↑xx5 : Int)) * (160 : Int) + (↑x : Int) + (7 : Int) - ((7 : Int) + (↑xx6 : Int))).toNat) ((((↑y : Int) - (↑xx5 : Int)) * (160 : Int) + (↑x : Int) + (7 : Int) - ((7 : Int) + (↑xx6 : Int))).toNat) rfl (by kernel_rfl) (by kernel_rfl) (by kernel_rfl) (by kernel_rfl) (by omega) (by omega) (by omega) ?_)
          refine Xg.ops_op (by kernel_rfl) (Xg.opx_load_own (a := xx4.fst) (off := ((((↑y : Int) - (↑xx5 : Int)) * (160 : Int) + (↑x : Int) + (7 : Int) - ((7 : Int) + (↑xx6 : Int))).toNat)) 3 (uv (xx4.snd.snd.getD (((↑y : Int) - (↑xx5 : Int)) * (160 : Int) + (↑x : Int) + (7 : Int) - ((7 : Int) + (↑xx6 : Int))).toNat (0 : Int))) rfl (by kernel_rfl) (Xg.get_ints (by omega)) (by kernel_rfl) ?_)
          refine Xg.ops_op (by kernel_rfl) (Xg.opx_pure ((uv (xx4.snd.snd.getD (((↑y : Int) - (↑xx5 : Int)) * (160 : Int) + (↑x : Int) + (7 : Int) - ((7 : Int) + (↑xx6 : Int))).toNat (0 : Int)))) rfl (fun _ => by kernel_rfl) ?_)
          refine Xg.ops_nil ?_
          refine Xg.at_seq ?_
          refine Xg.at_region ?_
          refine Xg.ops_op (by kernel_rfl) (Xg.opx_pure ((Value.slice xx7.fst xx7.snd.snd.length xx7.snd.fst)) rfl (fun _ => by kernel_rfl) ?_)
          refine Xg.ops_op (by kernel_rfl) (Xg.opx_pure ((iv (↑y : Int))) rfl (fun _ => by kernel_rfl) ?_)
          refine Xg.ops_op (by kernel_rfl) (Xg.opx_int .i64 (IntKind.wrap .i64 (((↑y : Int) * (160 : Int)))) rfl (fun _ => by kernel_rfl) (Xg.wrap_i64_in (by omega)) ?_)
          refine Xg.ops_op (by kernel_rfl) (Xg.opx_pure ((iv (↑x : Int))) rfl (fun _ => by kernel_rfl) ?_)
          refine Xg.ops_op (by kernel_rfl) (Xg.opx_int .i64 (IntKind.wrap .i64 (((↑y : Int) * (160 : Int) + (↑x : Int)))) rfl (fun _ => by kernel_rfl) (Xg.wrap_i64_in (by omega)) ?_)
          refine Xg.ops_op (by kernel_rfl) (Xg.opx_ix_own (elem := 5) (kd := .i64) (e := ((↑y : Int) * (160 : Int) + (↑x : Int))) 0 1 (((↑y : Int) * (160 : Int) + (↑x : Int)).toNat) (((↑y : Int) * (160 : Int) + (↑x : Int)).toNat) rfl (by kernel_rfl) (by kernel_rfl) (by kernel_rfl) (by kernel_rfl) (by omega) (by omega) (by omega) ?_)
          refine Xg.ops_op (by kernel_rfl) (Xg.opx_load_own (a := xx7.fst) (off := (((↑y : Int) * (160 : Int) + (↑x : Int)).toNat)) 0 (uv (xx7.snd.snd.getD ((↑y : Int) * (160 : Int) + (↑x : Int)).toNat (0 : Int))) rfl (by kernel_rfl) (Xg.get_ints (by omega)) (by kernel_rfl) ?_)
          refine Xg.ops_op (by kernel_rfl) (Xg.opx_pure ((uv (xx4.snd.snd.getD (((↑y : Int) - (↑xx5 : Int)) * (160 : Int) + (↑x : Int) + (7 : Int) - ((7 : Int) + (↑xx6 : Int))).toNat (0 : Int)))) rfl (fun _ => by kernel_rfl) ?_)
          refine Xg.ops_op (by kernel_rfl) (Xg.opx_pure (.bool (!decide (((xx7.snd.snd.getD ((↑y : Int) * (160 : Int) + (↑x : Int)).toNat (0 : Int)) : Int) = (xx4.snd.snd.getD (((↑y : Int) - (↑xx5 : Int)) * (160 : Int) + (↑x : Int) + (7 : Int) - ((7 : Int) + (↑xx6 : Int))).toNat (0 : Int))))) rfl (fun _ => by kernel_rfl) ?_)
          refine Xg.ops_nil ?_
          refine Xg.at_false (t := !decide ((xx7.snd.snd.getD ((↑y : Int) * (160 : Int) + (↑x : Int)).toNat (0 : Int) = xx4.snd.snd.getD (((↑y : Int) - (↑xx5 : Int)) * (160 : Int) + (↑x : Int) + (7 : Int) - ((7 : Int) + (↑xx6 : Int))).toNat (0 : Int)))) (by kernel_rfl) (by rw [decide_eq_true (by omega)]; rfl) ?_
          refine Xg.at_skip ?_
          refine Xg.at_inBlock ?_
          refine Xg.at_region ?_
          refine Xg.ops_op (by kernel_rfl) (Xg.opx_pure ((iv (↑x : Int))) rfl (fun _ => by kernel_rfl) ?_)
          refine Xg.ops_op (by kernel_rfl) (Xg.opx_int .i64 (IntKind.wrap .i64 (((↑x : Int) + (1 : Int)))) rfl (fun _ => by kernel_rfl) (Xg.wrap_i64_in (by omega)) ?_)
          refine Xg.ops_op (by kernel_rfl) (Xg.opx_pure ((iv ((↑x : Int) + (1 : Int)))) rfl (fun _ => by kernel_rfl) ?_)
          refine Xg.ops_nil ?_
          refine Xg.at_inLoop ?_)
        · (focus
            refine Xg.at_keep [0, 1, 2, 3, 4, 5, 6, 7, 8] (by kernel_rfl) ?_
            refine Xg.At.same (by kernel_rfl) ?_ (ih2 (((x + 1)), fun j => ([Value.agg #[Value.slice s.ra s.rn s.rc, Value.slice s.oa s.on s.oc, Value.slice s.pa s.pn s.pc], iv wy, iv wx, iv scy, iv scx, pv xb1 0, tu, tu, tu, tu, J2 10, pv xb2 0, Value.slice xx2.fst xx2.snd.snd.length xx2.snd.fst, Value.bool true, pv xb3 0, Value.slice xx4.fst xx4.snd.snd.length xx4.snd.fst, Value.bool true, iv (↑xx5 : Int), iv ((7 : Int) + (↑xx6 : Int)), Value.slice xx7.fst xx7.snd.snd.length xx7.snd.fst, Value.bool true, iv (↑y : Int), iv ((↑x : Int) + (1 : Int)), uv (xx4.snd.snd.getD (((↑y : Int) - (↑xx5 : Int)) * (160 : Int) + (↑x : Int) + (7 : Int) - ((7 : Int) + (↑xx6 : Int))).toNat (0 : Int)), Value.agg #[Value.slice s.ra s.rn s.rc, Value.slice s.oa s.on s.oc, Value.slice s.pa s.pn s.pc], iv scy, iv scx, Value.agg #[Value.slice (some (Addr.mk xx1.fst (0 : Nat) none)) (12 : Nat) (12 : Nat), Value.slice none (0 : Nat) (0 : Nat), Value.slice s.pa s.pn s.pc], Value.tuple #[Value.slice xx2.fst xx2.snd.snd.length xx2.snd.fst, Value.bool true], Value.agg #[Value.slice (some (Addr.mk xx1.fst (0 : Nat) none)) (12 : Nat) (12 : Nat), Value.slice none (0 : Nat) (0 : Nat), Value.slice s.pa s.pn s.pc], Value.tuple #[Value.slice xx2.fst xx2.snd.snd.length xx2.snd.fst, Value.bool true], Value.slice xx2.fst xx2.snd.snd.length xx2.snd.fst, Value.bool true, Value.agg #[Value.slice s.ra s.rn s.rc, Value.slice s.oa s.on s.oc, Value.slice s.pa s.pn s.pc], Value.agg #[Value.slice (some (Addr.mk xx3.fst (0 : Nat) none)) (12 : Nat) (12 : Nat), Value.slice none (0 : Nat) (0 : Nat), Value.slice s.pa s.pn s.pc], Value.tuple #[Value.slice xx4.fst xx4.snd.snd.length xx4.snd.fst, Value.bool true], Value.agg #[Value.slice (some (Addr.mk xx3.fst (0 : Nat) none)) (12 : Nat) (12 : Nat), Value.slice none (0 : Nat) (0 : Nat), Value.slice s.pa s.pn s.pc], Value.tuple #[Value.slice xx4.fst xx4.snd.snd.length xx4.snd.fst, Value.bool true], Value.slice xx4.fst xx4.snd.snd.length xx4.snd.fst, Value.bool true, iv wy, iv (↑xx5 : Int), iv wx, iv (↑xx6 : Int), iv ((7 : Int) + (↑xx6 : Int)), pv xb2 0, Value.slice (some (Addr.mk xx1.fst (0 : Nat) none)) (12 : Nat) (12 : Nat), pv xx1.fst 0, pv xb2 0, Value.slice (some (Addr.mk xx1.fst (0 : Nat) none)) (12 : Nat) (12 : Nat), iv (↑xx5 : Int), pv xx1.fst 10, pv xb2 0, Value.slice (some (Addr.mk xx1.fst (0 : Nat) none)) (12 : Nat) (12 : Nat), iv ((7 : Int) + (↑xx6 : Int)), pv xx1.fst 11, Value.tuple #[Value.slice xx7.fst xx7.snd.snd.length xx7.snd.fst, Value.bool true], Value.agg #[Value.slice (some (Addr.mk xx1.fst (0 : Nat) none)) (12 : Nat) (12 : Nat), Value.slice none (0 : Nat) (0 : Nat), Value.slice s.pa s.pn s.pc], Value.tuple #[Value.slice xx7.fst xx7.snd.snd.length xx7.snd.fst, Value.bool true], Value.slice xx7.fst xx7.snd.snd.length xx7.snd.fst, Value.bool true, Value.bool true, Value.bool false, Value.bool false, Value.bool true, Value.bool false, Value.bool false, Value.bool false, Value.bool true, Value.bool false, Value.bool false, iv (↑y : Int), Value.bool (decide ((↑y : Int) < (144 : Int))), J 73, J 74, iv (↑x : Int), Value.bool (decide ((↑x : Int) < (160 : Int))), iv (↑x : Int), iv ((↑x : Int) + (1 : Int)), Value.slice xx2.fst xx2.snd.snd.length xx2.snd.fst, iv (↑y : Int), iv ((↑y : Int) * (160 : Int)), iv (↑x : Int), iv ((↑y : Int) * (160 : Int) + (↑x : Int)), Value.pointer (some (Addr.mk (blk xx2.fst) ((↑y : Int) * (160 : Int) + (↑x : Int)).toNat none)), uv (xx2.snd.snd.getD ((↑y : Int) * (160 : Int) + (↑x : Int)).toNat (0 : Int)), iv (↑y : Int), iv (↑xx5 : Int), Value.bool (decide ((↑y : Int) ≥ (↑xx5 : Int))), Value.bool true, iv (↑x : Int), iv ((↑x : Int) + (7 : Int)), iv ((7 : Int) + (↑xx6 : Int)), Value.bool true, Value.bool true, Value.slice xx4.fst xx4.snd.snd.length xx4.snd.fst, iv (↑y : Int), iv (↑xx5 : Int), iv ((↑y : Int) - (↑xx5 : Int)), iv (((↑y : Int) - (↑xx5 : Int)) * (160 : Int)), iv (↑x : Int), iv (((↑y : Int) - (↑xx5 : Int)) * (160 : Int) + (↑x : Int)), iv (((↑y : Int) - (↑xx5 : Int)) * (160 : Int) + (↑x : Int) + (7 : Int)), iv ((7 : Int) + (↑xx6 : Int)), iv (((↑y : Int) - (↑xx5 : Int)) * (160 : Int) + (↑x : Int) + (7 : Int) - ((7 : Int) + (↑xx6 : Int))), Value.pointer (some (Addr.mk (blk xx4.fst) (((↑y : Int) - (↑xx5 : Int)) * (160 : Int) + (↑x : Int) + (7 : Int) - ((7 : Int) + (↑xx6 : Int))).toNat none)), uv (xx4.snd.snd.getD (((↑y : Int) - (↑xx5 : Int)) * (160 : Int) + (↑x : Int) + (7 : Int) - ((7 : Int) + (↑xx6 : Int))).toNat (0 : Int)), Value.slice xx7.fst xx7.snd.snd.length xx7.snd.fst, iv (↑y : Int), iv ((↑y : Int) * (160 : Int)), iv (↑x : Int), iv ((↑y : Int) * (160 : Int) + (↑x : Int)), Value.pointer (some (Addr.mk (blk xx7.fst) ((↑y : Int) * (160 : Int) + (↑x : Int)).toNat none)), uv (xx7.snd.snd.getD ((↑y : Int) * (160 : Int) + (↑x : Int)).toNat (0 : Int)), uv (xx4.snd.snd.getD (((↑y : Int) - (↑xx5 : Int)) * (160 : Int) + (↑x : Int) + (7 : Int) - ((7 : Int) + (↑xx6 : Int))).toNat (0 : Int)), Value.bool !decide (xx7.snd.snd.getD ((↑y : Int) * (160 : Int) + (↑x : Int)).toNat (0 : Int) = xx4.snd.snd.getD (((↑y : Int) - (↑xx5 : Int)) * (160 : Int) + (↑x : Int) + (7 : Int) - ((7 : Int) + (↑xx6 : Int))).toNat (0 : Int))] : List Value).getD j undef) ?_ ?_))
          · rfl
          · dsimp only; omega
          · dsimp only; omega
      · have he : xx7.2.2.getD ((y : Int) * 160 + (x : Int)).toNat 0 = xx2.2.2.getD ((y : Int) * 160 + (x : Int)).toNat 0 := by
          rw [show ((y : Int) * 160 + (x : Int)).toNat = 160 * y + x from by omega]
          exact hout y x hlt hlt2 hc
        (focus
          refine Xg.at_seq ?_
          refine Xg.at_seq ?_
          refine Xg.at_region ?_
          refine Xg.ops_op (by kernel_rfl) (Xg.opx_pure ((iv (↑x : Int))) rfl (fun _ => by kernel_rfl) ?_)
          refine Xg.ops_op (by kernel_rfl) (Xg.opx_pure (.bool (decide ((((↑x : Int)) : Int) < ((160 : Int))))) rfl (fun _ => by kernel_rfl) ?_)
          refine Xg.ops_nil ?_
          refine Xg.at_true (t := decide (((↑x : Int) < (160 : Int)))) (by kernel_rfl) (decide_eq_true (by omega)) ?_
          refine Xg.at_skip ?_
          refine Xg.at_seq ?_
          refine Xg.at_block ?_
          refine Xg.at_seq ?_
          refine Xg.at_region ?_
          refine Xg.ops_op (by kernel_rfl) (Xg.opx_pure ((Value.slice xx2.fst xx2.snd.snd.length xx2.snd.fst)) rfl (fun _ => by kernel_rfl) ?_)
          refine Xg.ops_op (by kernel_rfl) (Xg.opx_pure ((iv (↑y : Int))) rfl (fun _ => by kernel_rfl) ?_)
          refine Xg.ops_op (by kernel_rfl) (Xg.opx_int .i64 (IntKind.wrap .i64 (((↑y : Int) * (160 : Int)))) rfl (fun _ => by kernel_rfl) (Xg.wrap_i64_in (by omega)) ?_)
          refine Xg.ops_op (by kernel_rfl) (Xg.opx_pure ((iv (↑x : Int))) rfl (fun _ => by kernel_rfl) ?_)
          refine Xg.ops_op (by kernel_rfl) (Xg.opx_int .i64 (IntKind.wrap .i64 (((↑y : Int) * (160 : Int) + (↑x : Int)))) rfl (fun _ => by kernel_rfl) (Xg.wrap_i64_in (by omega)) ?_)
          refine Xg.ops_op (by kernel_rfl) (Xg.opx_ix_own (elem := 5) (kd := .i64) (e := ((↑y : Int) * (160 : Int) + (↑x : Int))) 6 1 (((↑y : Int) * (160 : Int) + (↑x : Int)).toNat) (((↑y : Int) * (160 : Int) + (↑x : Int)).toNat) rfl (by kernel_rfl) (by kernel_rfl) (by kernel_rfl) (by kernel_rfl) (by omega) (by omega) (by omega) ?_)
          refine Xg.ops_op (by kernel_rfl) (Xg.opx_load_own (a := xx2.fst) (off := (((↑y : Int) * (160 : Int) + (↑x : Int)).toNat)) 6 (uv (xx2.snd.snd.getD ((↑y : Int) * (160 : Int) + (↑x : Int)).toNat (0 : Int))) rfl (by kernel_rfl) (Xg.get_ints (by omega)) (by kernel_rfl) ?_)
          refine Xg.ops_op (by kernel_rfl) (Xg.opx_pure ((uv (xx2.snd.snd.getD ((↑y : Int) * (160 : Int) + (↑x : Int)).toNat (0 : Int)))) rfl (fun _ => by kernel_rfl) ?_)
          refine Xg.ops_nil ?_
          refine Xg.at_seq ?_
          refine Xg.at_seq ?_
          refine Xg.at_region ?_
          refine Xg.ops_op (by kernel_rfl) (Xg.opx_pure ((iv (↑y : Int))) rfl (fun _ => by kernel_rfl) ?_)
          refine Xg.ops_op (by kernel_rfl) (Xg.opx_pure ((iv (↑xx5 : Int))) rfl (fun _ => by kernel_rfl) ?_)
          refine Xg.ops_op (by kernel_rfl) (Xg.opx_pure (.bool (decide ((((↑y : Int)) : Int) ≥ ((↑xx5 : Int))))) rfl (fun _ => by kernel_rfl) ?_)
          refine Xg.ops_op (by kernel_rfl) (Xg.opx_pure ((Value.bool (decide ((↑y : Int) ≥ (↑xx5 : Int))))) rfl (fun _ => by kernel_rfl) ?_)
          refine Xg.ops_flag (j := 89) (c := (decide ((↑y : Int) ≥ (↑xx5 : Int)))) (by kernel_rfl) (fun xh8 => ?_) (fun xh8 => ?_)
          replace xh8 : ((↑y : Int) ≥ (↑xx5 : Int)) := of_decide_eq_true xh8
          rotate_left
          replace xh8 : ¬ (((↑y : Int) ≥ (↑xx5 : Int))) := of_decide_eq_false xh8
          rotate_right
          refine Xg.ops_op (by kernel_rfl) (Xg.opx_pure ((iv (↑x : Int))) rfl (fun _ => by kernel_rfl) ?_)
          refine Xg.ops_op (by kernel_rfl) (Xg.opx_int .i64 (IntKind.wrap .i64 (((↑x : Int) + (7 : Int)))) rfl (fun _ => by kernel_rfl) (Xg.wrap_i64_in (by omega)) ?_)
          refine Xg.ops_op (by kernel_rfl) (Xg.opx_pure ((iv ((7 : Int) + (↑xx6 : Int)))) rfl (fun _ => by kernel_rfl) ?_)
          refine Xg.ops_op (by kernel_rfl) (Xg.opx_pure (.bool (decide ((((↑x : Int) + (7 : Int)) : Int) ≥ ((7 : Int) + (↑xx6 : Int))))) rfl (fun _ => by kernel_rfl) ?_)
          refine Xg.ops_flag (j := 93) (c := (decide ((↑x : Int) + (7 : Int) ≥ (7 : Int) + (↑xx6 : Int)))) (by kernel_rfl) (fun xh9 => absurd (of_decide_eq_true xh9) (by omega)) (fun _ => ?_)
          refine Xg.ops_op (by kernel_rfl) (Xg.opx_pure ((Value.bool false)) rfl (fun _ => by kernel_rfl) ?_)
          refine Xg.ops_nil ?_
          refine Xg.at_false (t := false) (by kernel_rfl) rfl ?_
          refine Xg.at_skip ?_
          refine Xg.at_seq ?_
          refine Xg.at_region ?_
          refine Xg.ops_op (by kernel_rfl) (Xg.opx_pure ((Value.slice xx7.fst xx7.snd.snd.length xx7.snd.fst)) rfl (fun _ => by kernel_rfl) ?_)
          refine Xg.ops_op (by kernel_rfl) (Xg.opx_pure ((iv (↑y : Int))) rfl (fun _ => by kernel_rfl) ?_)
          refine Xg.ops_op (by kernel_rfl) (Xg.opx_int .i64 (IntKind.wrap .i64 (((↑y : Int) * (160 : Int)))) rfl (fun _ => by kernel_rfl) (Xg.wrap_i64_in (by omega)) ?_)
          refine Xg.ops_op (by kernel_rfl) (Xg.opx_pure ((iv (↑x : Int))) rfl (fun _ => by kernel_rfl) ?_)
          refine Xg.ops_op (by kernel_rfl) (Xg.opx_int .i64 (IntKind.wrap .i64 (((↑y : Int) * (160 : Int) + (↑x : Int)))) rfl (fun _ => by kernel_rfl) (Xg.wrap_i64_in (by omega)) ?_)
          refine Xg.ops_op (by kernel_rfl) (Xg.opx_ix_own (elem := 5) (kd := .i64) (e := ((↑y : Int) * (160 : Int) + (↑x : Int))) 0 1 (((↑y : Int) * (160 : Int) + (↑x : Int)).toNat) (((↑y : Int) * (160 : Int) + (↑x : Int)).toNat) rfl (by kernel_rfl) (by kernel_rfl) (by kernel_rfl) (by kernel_rfl) (by omega) (by omega) (by omega) ?_)
          refine Xg.ops_op (by kernel_rfl) (Xg.opx_load_own (a := xx7.fst) (off := (((↑y : Int) * (160 : Int) + (↑x : Int)).toNat)) 0 (uv (xx7.snd.snd.getD ((↑y : Int) * (160 : Int) + (↑x : Int)).toNat (0 : Int))) rfl (by kernel_rfl) (Xg.get_ints (by omega)) (by kernel_rfl) ?_)
          refine Xg.ops_op (by kernel_rfl) (Xg.opx_pure ((uv (xx2.snd.snd.getD ((↑y : Int) * (160 : Int) + (↑x : Int)).toNat (0 : Int)))) rfl (fun _ => by kernel_rfl) ?_)
          refine Xg.ops_op (by kernel_rfl) (Xg.opx_pure (.bool (!decide (((xx7.snd.snd.getD ((↑y : Int) * (160 : Int) + (↑x : Int)).toNat (0 : Int)) : Int) = (xx2.snd.snd.getD ((↑y : Int) * (160 : Int) + (↑x : Int)).toNat (0 : Int))))) rfl (fun _ => by kernel_rfl) ?_)
          refine Xg.ops_nil ?_
          refine Xg.at_false (t := !decide ((xx7.snd.snd.getD ((↑y : Int) * (160 : Int) + (↑x : Int)).toNat (0 : Int) = xx2.snd.snd.getD ((↑y : Int) * (160 : Int) + (↑x : Int)).toNat (0 : Int)))) (by kernel_rfl) (by rw [decide_eq_true (by omega)]; rfl) ?_
          refine Xg.at_skip ?_
          refine Xg.at_inBlock ?_
          refine Xg.at_region ?_
          refine Xg.ops_op (by kernel_rfl) (Xg.opx_pure ((iv (↑x : Int))) rfl (fun _ => by kernel_rfl) ?_)
          refine Xg.ops_op (by kernel_rfl) (Xg.opx_int .i64 (IntKind.wrap .i64 (((↑x : Int) + (1 : Int)))) rfl (fun _ => by kernel_rfl) (Xg.wrap_i64_in (by omega)) ?_)
          refine Xg.ops_op (by kernel_rfl) (Xg.opx_pure ((iv ((↑x : Int) + (1 : Int)))) rfl (fun _ => by kernel_rfl) ?_)
          refine Xg.ops_nil ?_
          refine Xg.at_inLoop ?_
          rotate_left
          refine Xg.ops_skip (by kernel_rfl) ?_
          refine Xg.ops_skip (by kernel_rfl) ?_
          refine Xg.ops_skip (by kernel_rfl) ?_
          refine Xg.ops_skip (by kernel_rfl) ?_
          refine Xg.ops_op (by kernel_rfl) (Xg.opx_pure ((Value.bool false)) rfl (fun _ => by kernel_rfl) ?_)
          refine Xg.ops_nil ?_
          refine Xg.at_false (t := false) (by kernel_rfl) rfl ?_
          refine Xg.at_skip ?_
          refine Xg.at_seq ?_
          refine Xg.at_region ?_
          refine Xg.ops_op (by kernel_rfl) (Xg.opx_pure ((Value.slice xx7.fst xx7.snd.snd.length xx7.snd.fst)) rfl (fun _ => by kernel_rfl) ?_)
          refine Xg.ops_op (by kernel_rfl) (Xg.opx_pure ((iv (↑y : Int))) rfl (fun _ => by kernel_rfl) ?_)
          refine Xg.ops_op (by kernel_rfl) (Xg.opx_int .i64 (IntKind.wrap .i64 (((↑y : Int) * (160 : Int)))) rfl (fun _ => by kernel_rfl) (Xg.wrap_i64_in (by omega)) ?_)
          refine Xg.ops_op (by kernel_rfl) (Xg.opx_pure ((iv (↑x : Int))) rfl (fun _ => by kernel_rfl) ?_)
          refine Xg.ops_op (by kernel_rfl) (Xg.opx_int .i64 (IntKind.wrap .i64 (((↑y : Int) * (160 : Int) + (↑x : Int)))) rfl (fun _ => by kernel_rfl) (Xg.wrap_i64_in (by omega)) ?_)
          refine Xg.ops_op (by kernel_rfl) (Xg.opx_ix_own (elem := 5) (kd := .i64) (e := ((↑y : Int) * (160 : Int) + (↑x : Int))) 0 1 (((↑y : Int) * (160 : Int) + (↑x : Int)).toNat) (((↑y : Int) * (160 : Int) + (↑x : Int)).toNat) rfl (by kernel_rfl) (by kernel_rfl) (by kernel_rfl) (by kernel_rfl) (by omega) (by omega) (by omega) ?_)
          refine Xg.ops_op (by kernel_rfl) (Xg.opx_load_own (a := xx7.fst) (off := (((↑y : Int) * (160 : Int) + (↑x : Int)).toNat)) 0 (uv (xx7.snd.snd.getD ((↑y : Int) * (160 : Int) + (↑x : Int)).toNat (0 : Int))) rfl (by kernel_rfl) (Xg.get_ints (by omega)) (by kernel_rfl) ?_)
          refine Xg.ops_op (by kernel_rfl) (Xg.opx_pure ((uv (xx2.snd.snd.getD ((↑y : Int) * (160 : Int) + (↑x : Int)).toNat (0 : Int)))) rfl (fun _ => by kernel_rfl) ?_)
          refine Xg.ops_op (by kernel_rfl) (Xg.opx_pure (.bool (!decide (((xx7.snd.snd.getD ((↑y : Int) * (160 : Int) + (↑x : Int)).toNat (0 : Int)) : Int) = (xx2.snd.snd.getD ((↑y : Int) * (160 : Int) + (↑x : Int)).toNat (0 : Int))))) rfl (fun _ => by kernel_rfl) ?_)
          refine Xg.ops_nil ?_
          refine Xg.at_false (t := !decide ((xx7.snd.snd.getD ((↑y : Int) * (160 : Int) + (↑x : Int)).toNat (0 : Int) = xx2.snd.snd.getD ((↑y : Int) * (160 : Int) + (↑x : Int)).toNat (0 : Int)))) (by kernel_rfl) (by rw [decide_eq_true (by omega)]; rfl) ?_
          refine Xg.at_skip ?_
          refine Xg.at_inBlock ?_
          refine Xg.at_region ?_
          refine Xg.ops_op (by kernel_rfl) (Xg.opx_pure ((iv (↑x : Int))) rfl (fun _ => by kernel_rfl) ?_)
          refine Xg.ops_op (by kernel_rfl) (Xg.opx_int .i64 (IntKind.wrap .i64 (((↑x : Int) + (1 : Int)))) rfl (fun _ => by kernel_rfl) (Xg.wrap_i64_in (by omega)) ?_)
          refine Xg.ops_op (by kernel_rfl) (Xg.opx_pure ((iv ((↑x : Int) + (1 : Int)))) rfl (fun _ => by kernel_rfl) ?_)
          refine Xg.ops_nil ?_
          refine Xg.at_inLoop ?_)
        · (focus
            refine Xg.at_keep [0, 1, 2, 3, 4, 5, 6, 7, 8] (by kernel_rfl) ?_
            refine Xg.At.same (by kernel_rfl) ?_ (ih2 (((x + 1)), fun j => ([Value.agg #[Value.slice s.ra s.rn s.rc, Value.slice s.oa s.on s.oc, Value.slice s.pa s.pn s.pc], iv wy, iv wx, iv scy, iv scx, pv xb1 0, tu, tu, tu, tu, J2 10, pv xb2 0, Value.slice xx2.fst xx2.snd.snd.length xx2.snd.fst, Value.bool true, pv xb3 0, Value.slice xx4.fst xx4.snd.snd.length xx4.snd.fst, Value.bool true, iv (↑xx5 : Int), iv ((7 : Int) + (↑xx6 : Int)), Value.slice xx7.fst xx7.snd.snd.length xx7.snd.fst, Value.bool true, iv (↑y : Int), iv ((↑x : Int) + (1 : Int)), uv (xx2.snd.snd.getD ((↑y : Int) * (160 : Int) + (↑x : Int)).toNat (0 : Int)), Value.agg #[Value.slice s.ra s.rn s.rc, Value.slice s.oa s.on s.oc, Value.slice s.pa s.pn s.pc], iv scy, iv scx, Value.agg #[Value.slice (some (Addr.mk xx1.fst (0 : Nat) none)) (12 : Nat) (12 : Nat), Value.slice none (0 : Nat) (0 : Nat), Value.slice s.pa s.pn s.pc], Value.tuple #[Value.slice xx2.fst xx2.snd.snd.length xx2.snd.fst, Value.bool true], Value.agg #[Value.slice (some (Addr.mk xx1.fst (0 : Nat) none)) (12 : Nat) (12 : Nat), Value.slice none (0 : Nat) (0 : Nat), Value.slice s.pa s.pn s.pc], Value.tuple #[Value.slice xx2.fst xx2.snd.snd.length xx2.snd.fst, Value.bool true], Value.slice xx2.fst xx2.snd.snd.length xx2.snd.fst, Value.bool true, Value.agg #[Value.slice s.ra s.rn s.rc, Value.slice s.oa s.on s.oc, Value.slice s.pa s.pn s.pc], Value.agg #[Value.slice (some (Addr.mk xx3.fst (0 : Nat) none)) (12 : Nat) (12 : Nat), Value.slice none (0 : Nat) (0 : Nat), Value.slice s.pa s.pn s.pc], Value.tuple #[Value.slice xx4.fst xx4.snd.snd.length xx4.snd.fst, Value.bool true], Value.agg #[Value.slice (some (Addr.mk xx3.fst (0 : Nat) none)) (12 : Nat) (12 : Nat), Value.slice none (0 : Nat) (0 : Nat), Value.slice s.pa s.pn s.pc], Value.tuple #[Value.slice xx4.fst xx4.snd.snd.length xx4.snd.fst, Value.bool true], Value.slice xx4.fst xx4.snd.snd.length xx4.snd.fst, Value.bool true, iv wy, iv (↑xx5 : Int), iv wx, iv (↑xx6 : Int), iv ((7 : Int) + (↑xx6 : Int)), pv xb2 0, Value.slice (some (Addr.mk xx1.fst (0 : Nat) none)) (12 : Nat) (12 : Nat), pv xx1.fst 0, pv xb2 0, Value.slice (some (Addr.mk xx1.fst (0 : Nat) none)) (12 : Nat) (12 : Nat), iv (↑xx5 : Int), pv xx1.fst 10, pv xb2 0, Value.slice (some (Addr.mk xx1.fst (0 : Nat) none)) (12 : Nat) (12 : Nat), iv ((7 : Int) + (↑xx6 : Int)), pv xx1.fst 11, Value.tuple #[Value.slice xx7.fst xx7.snd.snd.length xx7.snd.fst, Value.bool true], Value.agg #[Value.slice (some (Addr.mk xx1.fst (0 : Nat) none)) (12 : Nat) (12 : Nat), Value.slice none (0 : Nat) (0 : Nat), Value.slice s.pa s.pn s.pc], Value.tuple #[Value.slice xx7.fst xx7.snd.snd.length xx7.snd.fst, Value.bool true], Value.slice xx7.fst xx7.snd.snd.length xx7.snd.fst, Value.bool true, Value.bool true, Value.bool false, Value.bool false, Value.bool true, Value.bool false, Value.bool false, Value.bool false, Value.bool true, Value.bool false, Value.bool false, iv (↑y : Int), Value.bool (decide ((↑y : Int) < (144 : Int))), J 73, J 74, iv (↑x : Int), Value.bool (decide ((↑x : Int) < (160 : Int))), iv (↑x : Int), iv ((↑x : Int) + (1 : Int)), Value.slice xx2.fst xx2.snd.snd.length xx2.snd.fst, iv (↑y : Int), iv ((↑y : Int) * (160 : Int)), iv (↑x : Int), iv ((↑y : Int) * (160 : Int) + (↑x : Int)), Value.pointer (some (Addr.mk (blk xx2.fst) ((↑y : Int) * (160 : Int) + (↑x : Int)).toNat none)), uv (xx2.snd.snd.getD ((↑y : Int) * (160 : Int) + (↑x : Int)).toNat (0 : Int)), iv (↑y : Int), iv (↑xx5 : Int), Value.bool (decide ((↑y : Int) ≥ (↑xx5 : Int))), Value.bool false, tu, tu, tu, tu, Value.bool false, J2 95, J2 96, J2 97, J2 98, J2 99, J2 100, J2 101, J2 102, J2 103, J2 104, J2 105, J2 106, Value.slice xx7.fst xx7.snd.snd.length xx7.snd.fst, iv (↑y : Int), iv ((↑y : Int) * (160 : Int)), iv (↑x : Int), iv ((↑y : Int) * (160 : Int) + (↑x : Int)), Value.pointer (some (Addr.mk (blk xx7.fst) ((↑y : Int) * (160 : Int) + (↑x : Int)).toNat none)), uv (xx7.snd.snd.getD ((↑y : Int) * (160 : Int) + (↑x : Int)).toNat (0 : Int)), uv (xx2.snd.snd.getD ((↑y : Int) * (160 : Int) + (↑x : Int)).toNat (0 : Int)), Value.bool !decide (xx7.snd.snd.getD ((↑y : Int) * (160 : Int) + (↑x : Int)).toNat (0 : Int) = xx2.snd.snd.getD ((↑y : Int) * (160 : Int) + (↑x : Int)).toNat (0 : Int))] : List Value).getD j undef) ?_ ?_))
          · rfl
          · dsimp only; omega
          · dsimp only; omega
        · (focus
            refine Xg.at_keep [0, 1, 2, 3, 4, 5, 6, 7, 8] (by kernel_rfl) ?_
            refine Xg.At.same (by kernel_rfl) ?_ (ih2 (((x + 1)), fun j => ([Value.agg #[Value.slice s.ra s.rn s.rc, Value.slice s.oa s.on s.oc, Value.slice s.pa s.pn s.pc], iv wy, iv wx, iv scy, iv scx, pv xb1 0, tu, tu, tu, tu, J2 10, pv xb2 0, Value.slice xx2.fst xx2.snd.snd.length xx2.snd.fst, Value.bool true, pv xb3 0, Value.slice xx4.fst xx4.snd.snd.length xx4.snd.fst, Value.bool true, iv (↑xx5 : Int), iv ((7 : Int) + (↑xx6 : Int)), Value.slice xx7.fst xx7.snd.snd.length xx7.snd.fst, Value.bool true, iv (↑y : Int), iv ((↑x : Int) + (1 : Int)), uv (xx2.snd.snd.getD ((↑y : Int) * (160 : Int) + (↑x : Int)).toNat (0 : Int)), Value.agg #[Value.slice s.ra s.rn s.rc, Value.slice s.oa s.on s.oc, Value.slice s.pa s.pn s.pc], iv scy, iv scx, Value.agg #[Value.slice (some (Addr.mk xx1.fst (0 : Nat) none)) (12 : Nat) (12 : Nat), Value.slice none (0 : Nat) (0 : Nat), Value.slice s.pa s.pn s.pc], Value.tuple #[Value.slice xx2.fst xx2.snd.snd.length xx2.snd.fst, Value.bool true], Value.agg #[Value.slice (some (Addr.mk xx1.fst (0 : Nat) none)) (12 : Nat) (12 : Nat), Value.slice none (0 : Nat) (0 : Nat), Value.slice s.pa s.pn s.pc], Value.tuple #[Value.slice xx2.fst xx2.snd.snd.length xx2.snd.fst, Value.bool true], Value.slice xx2.fst xx2.snd.snd.length xx2.snd.fst, Value.bool true, Value.agg #[Value.slice s.ra s.rn s.rc, Value.slice s.oa s.on s.oc, Value.slice s.pa s.pn s.pc], Value.agg #[Value.slice (some (Addr.mk xx3.fst (0 : Nat) none)) (12 : Nat) (12 : Nat), Value.slice none (0 : Nat) (0 : Nat), Value.slice s.pa s.pn s.pc], Value.tuple #[Value.slice xx4.fst xx4.snd.snd.length xx4.snd.fst, Value.bool true], Value.agg #[Value.slice (some (Addr.mk xx3.fst (0 : Nat) none)) (12 : Nat) (12 : Nat), Value.slice none (0 : Nat) (0 : Nat), Value.slice s.pa s.pn s.pc], Value.tuple #[Value.slice xx4.fst xx4.snd.snd.length xx4.snd.fst, Value.bool true], Value.slice xx4.fst xx4.snd.snd.length xx4.snd.fst, Value.bool true, iv wy, iv (↑xx5 : Int), iv wx, iv (↑xx6 : Int), iv ((7 : Int) + (↑xx6 : Int)), pv xb2 0, Value.slice (some (Addr.mk xx1.fst (0 : Nat) none)) (12 : Nat) (12 : Nat), pv xx1.fst 0, pv xb2 0, Value.slice (some (Addr.mk xx1.fst (0 : Nat) none)) (12 : Nat) (12 : Nat), iv (↑xx5 : Int), pv xx1.fst 10, pv xb2 0, Value.slice (some (Addr.mk xx1.fst (0 : Nat) none)) (12 : Nat) (12 : Nat), iv ((7 : Int) + (↑xx6 : Int)), pv xx1.fst 11, Value.tuple #[Value.slice xx7.fst xx7.snd.snd.length xx7.snd.fst, Value.bool true], Value.agg #[Value.slice (some (Addr.mk xx1.fst (0 : Nat) none)) (12 : Nat) (12 : Nat), Value.slice none (0 : Nat) (0 : Nat), Value.slice s.pa s.pn s.pc], Value.tuple #[Value.slice xx7.fst xx7.snd.snd.length xx7.snd.fst, Value.bool true], Value.slice xx7.fst xx7.snd.snd.length xx7.snd.fst, Value.bool true, Value.bool true, Value.bool false, Value.bool false, Value.bool true, Value.bool false, Value.bool false, Value.bool false, Value.bool true, Value.bool false, Value.bool false, iv (↑y : Int), Value.bool (decide ((↑y : Int) < (144 : Int))), J 73, J 74, iv (↑x : Int), Value.bool (decide ((↑x : Int) < (160 : Int))), iv (↑x : Int), iv ((↑x : Int) + (1 : Int)), Value.slice xx2.fst xx2.snd.snd.length xx2.snd.fst, iv (↑y : Int), iv ((↑y : Int) * (160 : Int)), iv (↑x : Int), iv ((↑y : Int) * (160 : Int) + (↑x : Int)), Value.pointer (some (Addr.mk (blk xx2.fst) ((↑y : Int) * (160 : Int) + (↑x : Int)).toNat none)), uv (xx2.snd.snd.getD ((↑y : Int) * (160 : Int) + (↑x : Int)).toNat (0 : Int)), iv (↑y : Int), iv (↑xx5 : Int), Value.bool (decide ((↑y : Int) ≥ (↑xx5 : Int))), Value.bool true, iv (↑x : Int), iv ((↑x : Int) + (7 : Int)), iv ((7 : Int) + (↑xx6 : Int)), Value.bool false, Value.bool false, J2 95, J2 96, J2 97, J2 98, J2 99, J2 100, J2 101, J2 102, J2 103, J2 104, J2 105, J2 106, Value.slice xx7.fst xx7.snd.snd.length xx7.snd.fst, iv (↑y : Int), iv ((↑y : Int) * (160 : Int)), iv (↑x : Int), iv ((↑y : Int) * (160 : Int) + (↑x : Int)), Value.pointer (some (Addr.mk (blk xx7.fst) ((↑y : Int) * (160 : Int) + (↑x : Int)).toNat none)), uv (xx7.snd.snd.getD ((↑y : Int) * (160 : Int) + (↑x : Int)).toNat (0 : Int)), uv (xx2.snd.snd.getD ((↑y : Int) * (160 : Int) + (↑x : Int)).toNat (0 : Int)), Value.bool !decide (xx7.snd.snd.getD ((↑y : Int) * (160 : Int) + (↑x : Int)).toNat (0 : Int) = xx2.snd.snd.getD ((↑y : Int) * (160 : Int) + (↑x : Int)).toNat (0 : Int))] : List Value).getD j undef) ?_ ?_))
          · rfl
          · dsimp only; omega
          · dsimp only; omega
    · clear ih2
      (focus
        refine Xg.at_seq ?_
        refine Xg.at_seq ?_
        refine Xg.at_region ?_
        refine Xg.ops_op (by kernel_rfl) (Xg.opx_pure ((iv (↑x : Int))) rfl (fun _ => by kernel_rfl) ?_)
        refine Xg.ops_op (by kernel_rfl) (Xg.opx_pure (.bool (decide ((((↑x : Int)) : Int) < ((160 : Int))))) rfl (fun _ => by kernel_rfl) ?_)
        refine Xg.ops_nil ?_
        refine Xg.at_false (t := decide (((↑x : Int) < (160 : Int)))) (by kernel_rfl) (decide_eq_false (by omega)) ?_
        refine Xg.at_exit rfl ?_
        refine Xg.at_inBlock ?_
        refine Xg.at_region ?_
        refine Xg.ops_op (by kernel_rfl) (Xg.opx_pure ((iv (↑y : Int))) rfl (fun _ => by kernel_rfl) ?_)
        refine Xg.ops_op (by kernel_rfl) (Xg.opx_int .i64 (IntKind.wrap .i64 (((↑y : Int) + (1 : Int)))) rfl (fun _ => by kernel_rfl) (Xg.wrap_i64_in (by omega)) ?_)
        refine Xg.ops_op (by kernel_rfl) (Xg.opx_pure ((iv ((↑y : Int) + (1 : Int)))) rfl (fun _ => by kernel_rfl) ?_)
        refine Xg.ops_nil ?_
        refine Xg.at_inLoop ?_)
      (focus
        refine Xg.at_keep [0, 1, 2, 3, 4, 5, 6, 7, 8] (by kernel_rfl) ?_
        refine Xg.At.same (by kernel_rfl) ?_ (ih (((y + 1)), fun j => ([Value.agg #[Value.slice s.ra s.rn s.rc, Value.slice s.oa s.on s.oc, Value.slice s.pa s.pn s.pc], iv wy, iv wx, iv scy, iv scx, pv xb1 0, tu, tu, tu, tu, J2 10, pv xb2 0, Value.slice xx2.fst xx2.snd.snd.length xx2.snd.fst, Value.bool true, pv xb3 0, Value.slice xx4.fst xx4.snd.snd.length xx4.snd.fst, Value.bool true, iv (↑xx5 : Int), iv ((7 : Int) + (↑xx6 : Int)), Value.slice xx7.fst xx7.snd.snd.length xx7.snd.fst, Value.bool true, iv ((↑y : Int) + (1 : Int)), iv (↑x : Int), J2 23, Value.agg #[Value.slice s.ra s.rn s.rc, Value.slice s.oa s.on s.oc, Value.slice s.pa s.pn s.pc], iv scy, iv scx, Value.agg #[Value.slice (some (Addr.mk xx1.fst (0 : Nat) none)) (12 : Nat) (12 : Nat), Value.slice none (0 : Nat) (0 : Nat), Value.slice s.pa s.pn s.pc], Value.tuple #[Value.slice xx2.fst xx2.snd.snd.length xx2.snd.fst, Value.bool true], Value.agg #[Value.slice (some (Addr.mk xx1.fst (0 : Nat) none)) (12 : Nat) (12 : Nat), Value.slice none (0 : Nat) (0 : Nat), Value.slice s.pa s.pn s.pc], Value.tuple #[Value.slice xx2.fst xx2.snd.snd.length xx2.snd.fst, Value.bool true], Value.slice xx2.fst xx2.snd.snd.length xx2.snd.fst, Value.bool true, Value.agg #[Value.slice s.ra s.rn s.rc, Value.slice s.oa s.on s.oc, Value.slice s.pa s.pn s.pc], Value.agg #[Value.slice (some (Addr.mk xx3.fst (0 : Nat) none)) (12 : Nat) (12 : Nat), Value.slice none (0 : Nat) (0 : Nat), Value.slice s.pa s.pn s.pc], Value.tuple #[Value.slice xx4.fst xx4.snd.snd.length xx4.snd.fst, Value.bool true], Value.agg #[Value.slice (some (Addr.mk xx3.fst (0 : Nat) none)) (12 : Nat) (12 : Nat), Value.slice none (0 : Nat) (0 : Nat), Value.slice s.pa s.pn s.pc], Value.tuple #[Value.slice xx4.fst xx4.snd.snd.length xx4.snd.fst, Value.bool true], Value.slice xx4.fst xx4.snd.snd.length xx4.snd.fst, Value.bool true, iv wy, iv (↑xx5 : Int), iv wx, iv (↑xx6 : Int), iv ((7 : Int) + (↑xx6 : Int)), pv xb2 0, Value.slice (some (Addr.mk xx1.fst (0 : Nat) none)) (12 : Nat) (12 : Nat), pv xx1.fst 0, pv xb2 0, Value.slice (some (Addr.mk xx1.fst (0 : Nat) none)) (12 : Nat) (12 : Nat), iv (↑xx5 : Int), pv xx1.fst 10, pv xb2 0, Value.slice (some (Addr.mk xx1.fst (0 : Nat) none)) (12 : Nat) (12 : Nat), iv ((7 : Int) + (↑xx6 : Int)), pv xx1.fst 11, Value.tuple #[Value.slice xx7.fst xx7.snd.snd.length xx7.snd.fst, Value.bool true], Value.agg #[Value.slice (some (Addr.mk xx1.fst (0 : Nat) none)) (12 : Nat) (12 : Nat), Value.slice none (0 : Nat) (0 : Nat), Value.slice s.pa s.pn s.pc], Value.tuple #[Value.slice xx7.fst xx7.snd.snd.length xx7.snd.fst, Value.bool true], Value.slice xx7.fst xx7.snd.snd.length xx7.snd.fst, Value.bool true, Value.bool true, Value.bool false, Value.bool false, Value.bool true, Value.bool false, Value.bool false, Value.bool false, Value.bool true, Value.bool false, Value.bool false, iv (↑y : Int), Value.bool (decide ((↑y : Int) < (144 : Int))), iv (↑y : Int), iv ((↑y : Int) + (1 : Int)), iv (↑x : Int), Value.bool (decide ((↑x : Int) < (160 : Int))), J2 77, J2 78, J2 79, J2 80, J2 81, J2 82, J2 83, J2 84, J2 85, J2 86, J2 87, J2 88, J2 89, J2 90, J2 91, J2 92, J2 93, J2 94, J2 95, J2 96, J2 97, J2 98, J2 99, J2 100, J2 101, J2 102, J2 103, J2 104, J2 105, J2 106, J2 107, J2 108, J2 109, J2 110, J2 111, J2 112, J2 113, J2 114, J2 115] : List Value).getD j undef) ?_ ?_))
      · rfl
      · dsimp only; omega
      · dsimp only; omega
  · clear ih
    (focus
      refine Xg.at_seq ?_
      refine Xg.at_seq ?_
      refine Xg.at_region ?_
      refine Xg.ops_op (by kernel_rfl) (Xg.opx_pure ((iv (↑y : Int))) rfl (fun _ => by kernel_rfl) ?_)
      refine Xg.ops_op (by kernel_rfl) (Xg.opx_pure (.bool (decide ((((↑y : Int)) : Int) < ((144 : Int))))) rfl (fun _ => by kernel_rfl) ?_)
      refine Xg.ops_nil ?_
      refine Xg.at_false (t := decide (((↑y : Int) < (144 : Int)))) (by kernel_rfl) (decide_eq_false (by omega)) ?_
      refine Xg.at_exit rfl ?_
      refine Xg.at_seq ?_
      refine Xg.at_region ?_
      refine Xg.ops_op (by kernel_rfl) (Xg.opx_pure ((Value.bool true)) rfl (fun _ => by kernel_rfl) ?_)
      refine Xg.ops_nil ?_
      refine Xg.at_ret_ps (v := (Value.bool true)) [2] [A] Go.Proofs.Try.func8 (fun _ => by kernel_rfl) (by kernel_rfl) (by kernel_rfl) ?_
      exact ⟨by kernel_rfl, by kernel_rfl⟩)

end Go.Proofs.Ytkfclamiendamaa
