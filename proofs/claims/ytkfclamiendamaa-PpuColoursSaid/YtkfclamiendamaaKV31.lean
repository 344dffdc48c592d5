/- The law PpuColours: what it does. -/
import Derived.Test.YtkfclamiendamaaKV35
import Derived.Test.YtkfclamiendamaaKS
namespace Go.Proofs.Ytkfclamiendamaa
open Go.Sl Go.Xg
set_option linter.unusedVariables false
set_option linter.unusedSimpArgs false
set_option maxHeartbeats 4000000
set_option maxRecDepth 100000

set_option maxHeartbeats 0 in
theorem pcolours_d (A : HP) (s : Sn) (hs : s.Ok A) (bgp : Int) (hb : i64ok bgp) : Does Try.prog 7 [snV s, .int .i64 bgp] [A] (Ret (.bool true) [A]) := by
  have hpl : ∀ y x : Int, -9223372036854775808 ≤ y ∧ y ≤ 9223372036854775807 → -9223372036854775808 ≤ x ∧ x ≤ 9223372036854775807 → _ := fun y x hy hx => plain_d A s y x hy hx
  have hsh : ∀ (b Y X : Nat) (r0 p : Int), Y < 256 → X < 256 → 0 ≤ r0 ∧ r0 ≤ 255 → 0 ≤ p ∧ p ≤ 255 → _ := fun b Y X r0 p h1 h2 h3 h4 => shot_reg A s hs b r0 0 Y X 0 0 0 p 0 0 0 0 (by
    intro z hz
    unfold i64ok
    simp only [List.mem_cons, List.not_mem_nil, or_false] at hz
    omega)
  (focus
    refine Xg.spec_of Go.Proofs.Try.func7 rfl Go.Proofs.Try.ntmps7 fun g F => ?_)
  (focus
    refine Xg.at_seq ?_
    refine Xg.at_region ?_
    refine Xg.ops_op (by kernel_rfl) (Xg.opx_box (v := (Value.agg #[Value.slice s.ra s.rn s.rc, Value.slice s.oa s.on s.oc, Value.slice s.pa s.pn s.pc])) [Value.slice s.ra s.rn s.rc, Value.slice s.oa s.on s.oc, Value.slice s.pa s.pn s.pc] (by kernel_rfl) (by kernel_rfl) fun xb1 => ?_)
    refine Xg.ops_op (by kernel_rfl) (Xg.opx_pure ((Value.bool false)) rfl (fun _ => by kernel_rfl) ?_)
    refine Xg.ops_nil ?_
    refine Xg.at_seq ?_
    refine Xg.at_region ?_
    refine Xg.ops_op (by kernel_rfl) (Xg.opx_loadn (off := 0) 3 0 [Value.slice s.ra s.rn s.rc, Value.slice s.oa s.on s.oc, Value.slice s.pa s.pn s.pc] (by kernel_rfl) rfl (by kernel_rfl) rfl (Xg.cells_at (by kernel_rfl)) (by kernel_rfl) ?_)
    refine Xg.ops_op (by kernel_rfl) (Xg.opx_callE' [1] (fun xx1 => [rowR xx1.fst (145 : Int) (0 : Int) (↑xx1.snd.fst : Int) (↑xx1.snd.snd : Int) (0 : Int) (0 : Int) (0 : Int) (228 : Int) (0 : Int) (0 : Int) (0 : Int) (0 : Int), A, row xb1 (36 : Nat) [Value.slice s.ra s.rn s.rc, Value.slice s.oa s.on s.oc, Value.slice s.pa s.pn s.pc]]) (fun _ => by kernel_rfl) (@hpl (((3 : Int))) (((5 : Int))) (by omega) (by omega)) (by kernel_rfl) (by kernel_rfl) (by kernel_rfl) fun xx1 xh1 => ?_)
    try dsimp only at xh1
    obtain ⟨xh1_0, xh1_1, xh1_2, xh1_3⟩ := xh1
    refine Xg.ops_op (by kernel_rfl) (Xg.opx_new 3 [Value.slice none (0 : Nat) (0 : Nat), Value.slice none (0 : Nat) (0 : Nat), Value.slice none (0 : Nat) (0 : Nat)] (by kernel_rfl) (by kernel_rfl) fun xb2 => ?_)
    refine Xg.ops_op (by kernel_rfl) (Xg.opx_storen 3 (off := 0) 0 [Value.slice (some (Addr.mk xx1.fst (0 : Nat) none)) (12 : Nat) (12 : Nat), Value.slice none (0 : Nat) (0 : Nat), Value.slice s.pa s.pn s.pc] (by kernel_rfl) rfl (by kernel_rfl) (by kernel_rfl) rfl (by kernel_rfl) (Nat.le_of_ble_eq_true (by kernel_rfl)) ?_)
    refine Xg.ops_nil ?_
    refine Xg.at_seq ?_
    refine Xg.at_region ?_
    refine Xg.ops_op (by kernel_rfl) (Xg.opx_loadn (off := 0) 3 0 [Value.slice (some (Addr.mk xx1.fst (0 : Nat) none)) (12 : Nat) (12 : Nat), Value.slice none (0 : Nat) (0 : Nat), Value.slice s.pa s.pn s.pc] (by kernel_rfl) rfl (by kernel_rfl) rfl (Xg.cells_at (by kernel_rfl)) (by kernel_rfl) ?_)
    refine Xg.ops_op (by kernel_rfl) (Xg.opx_callE' [1, 2] (fun xx2 => [ints (5 : TypeId) IntKind.u8 xx2.fst xx2.snd.fst xx2.snd.snd, rowR xx1.fst (145 : Int) (0 : Int) (↑xx1.snd.fst : Int) (↑xx1.snd.snd : Int) (0 : Int) (0 : Int) (0 : Int) (228 : Int) (0 : Int) (0 : Int) (0 : Int) (0 : Int), A, row xb2 (36 : Nat) [Value.slice (some (Addr.mk xx1.fst (0 : Nat) none)) (12 : Nat) (12 : Nat), Value.slice none (0 : Nat) (0 : Nat), Value.slice s.pa s.pn s.pc], row xb1 (36 : Nat) [Value.slice s.ra s.rn s.rc, Value.slice s.oa s.on s.oc, Value.slice s.pa s.pn s.pc]]) (fun _ => by kernel_rfl) (@hsh (xx1.fst) (xx1.snd.fst) (xx1.snd.snd) (((145 : Int))) (((228 : Int))) (by omega) (by omega) (by omega) (by omega)) (by kernel_rfl) (by kernel_rfl) (by kernel_rfl) fun xx2 xh2 => ?_)
    try dsimp only at xh2
    obtain ⟨xh2_0, xh2_1⟩ := xh2
    refine Xg.ops_op (by kernel_rfl) (Xg.opx_pure ((Value.tuple #[Value.slice xx2.fst xx2.snd.snd.length xx2.snd.fst, Value.bool true])) rfl (fun _ => by kernel_rfl) ?_)
    refine Xg.ops_op (by kernel_rfl) (Xg.opx_pure ((Value.slice xx2.fst xx2.snd.snd.length xx2.snd.fst)) rfl (fun _ => by kernel_rfl) ?_)
    refine Xg.ops_op (by kernel_rfl) (Xg.opx_pure ((Value.bool true)) rfl (fun _ => by kernel_rfl) ?_)
    refine Xg.ops_op (by kernel_rfl) (Xg.opx_pure ((Value.slice xx2.fst xx2.snd.snd.length xx2.snd.fst)) rfl (fun _ => by kernel_rfl) ?_)
    refine Xg.ops_op (by kernel_rfl) (Xg.opx_pure ((Value.bool true)) rfl (fun _ => by kernel_rfl) ?_)
    refine Xg.ops_nil ?_
    refine Xg.at_seq ?_
    refine Xg.at_region ?_
    refine Xg.ops_op (by kernel_rfl) (Xg.opx_pure ((iv bgp)) rfl (fun _ => by kernel_rfl) ?_)
    refine Xg.ops_op (by kernel_rfl) (Xg.opx_callE' [] (fun xx3 => [ints (5 : TypeId) IntKind.u8 xx2.fst xx2.snd.fst xx2.snd.snd, rowR xx1.fst (145 : Int) (0 : Int) (↑xx1.snd.fst : Int) (↑xx1.snd.snd : Int) (0 : Int) (0 : Int) (0 : Int) (228 : Int) (0 : Int) (0 : Int) (0 : Int) (0 : Int), A, row xb2 (36 : Nat) [Value.slice (some (Addr.mk xx1.fst (0 : Nat) none)) (12 : Nat) (12 : Nat), Value.slice none (0 : Nat) (0 : Nat), Value.slice s.pa s.pn s.pc], row xb1 (36 : Nat) [Value.slice s.ra s.rn s.rc, Value.slice s.oa s.on s.oc, Value.slice s.pa s.pn s.pc]]) (fun _ => by kernel_rfl) (@Go.Proofs.Ytkfclamiendamaa.pick_d (bgp) ((nat_lit 256)) (by omega) (by first | rfl | decide | (constructor <;> omega) | (simp; done) | (simp; omega))) (by kernel_rfl) (by kernel_rfl) (by kernel_rfl) fun xx3 xh3 => ?_)
    try dsimp only at xh3
    obtain ⟨xh3_0, xh3_1⟩ := xh3
    refine Xg.ops_op (by kernel_rfl) (Xg.opx_pure ((iv (↑xx3 : Int))) rfl (fun _ => by kernel_rfl) ?_)
    refine Xg.ops_nil ?_
    refine Xg.at_seq ?_
    refine Xg.at_region ?_
    refine Xg.ops_op (by kernel_rfl) (Xg.opx_pure ((pv xb2 0)) rfl (fun _ => by kernel_rfl) ?_)
    refine Xg.ops_op (by kernel_rfl) (Xg.opx_load (b := xb2) (off := ((0 : Nat))) 3 (Value.slice (some (Addr.mk xx1.fst (0 : Nat) none)) (12 : Nat) (12 : Nat)) rfl (by kernel_rfl) (by kernel_rfl) (by kernel_rfl) ?_)
    refine Xg.ops_op (by kernel_rfl) (Xg.opx_pure ((iv (↑xx3 : Int))) rfl (fun _ => by kernel_rfl) ?_)
    refine Xg.ops_op (by kernel_rfl) (Xg.opx_pure (pv xx1.fst 7) rfl (fun _ => by kernel_rfl) ?_)
    refine Xg.ops_op (by kernel_rfl) (Xg.opx_store1 (off := 7) 1 (iv (↑xx3 : Int)) (by kernel_rfl) rfl (by kernel_rfl) (by kernel_rfl) (by kernel_rfl) (Nat.le_of_ble_eq_true (by kernel_rfl)) ?_)
    refine Xg.ops_nil ?_
    refine Xg.at_seq ?_
    refine Xg.at_region ?_
    refine Xg.ops_op (by kernel_rfl) (Xg.opx_loadn (off := 0) 3 3 [Value.slice (some (Addr.mk xx1.fst (0 : Nat) none)) (12 : Nat) (12 : Nat), Value.slice none (0 : Nat) (0 : Nat), Value.slice s.pa s.pn s.pc] (by kernel_rfl) rfl (by kernel_rfl) rfl (Xg.cells_at (by kernel_rfl)) (by kernel_rfl) ?_)
    refine Xg.ops_op (by kernel_rfl) (Xg.opx_callE' [1, 2] (fun xx4 => [ints (5 : TypeId) IntKind.u8 xx4.fst xx4.snd.fst xx4.snd.snd, rowR xx1.fst (145 : Int) (0 : Int) (↑xx1.snd.fst : Int) (↑xx1.snd.snd : Int) (0 : Int) (0 : Int) (0 : Int) (↑xx3 : Int) (0 : Int) (0 : Int) (0 : Int) (0 : Int), A, ints (5 : TypeId) IntKind.u8 xx2.fst xx2.snd.fst xx2.snd.snd, row xb2 (36 : Nat) [Value.slice (some (Addr.mk xx1.fst (0 : Nat) none)) (12 : Nat) (12 : Nat), Value.slice none (0 : Nat) (0 : Nat), Value.slice s.pa s.pn s.pc], row xb1 (36 : Nat) [Value.slice s.ra s.rn s.rc, Value.slice s.oa s.on s.oc, Value.slice s.pa s.pn s.pc]]) (fun _ => by kernel_rfl) (@hsh (xx1.fst) (xx1.snd.fst) (xx1.snd.snd) (((145 : Int))) (((↑xx3 : Int))) (by omega) (by omega) (by omega) (by omega)) (by kernel_rfl) (by kernel_rfl) (by kernel_rfl) fun xx4 xh4 => ?_)
    try dsimp only at xh4
    obtain ⟨xh4_0, xh4_1⟩ := xh4
    refine Xg.ops_op (by kernel_rfl) (Xg.opx_pure ((Value.tuple #[Value.slice xx4.fst xx4.snd.snd.length xx4.snd.fst, Value.bool true])) rfl (fun _ => by kernel_rfl) ?_)
    refine Xg.ops_op (by kernel_rfl) (Xg.opx_pure ((Value.slice xx4.fst xx4.snd.snd.length xx4.snd.fst)) rfl (fun _ => by kernel_rfl) ?_)
    refine Xg.ops_op (by kernel_rfl) (Xg.opx_pure ((Value.bool true)) rfl (fun _ => by kernel_rfl) ?_)
    refine Xg.ops_op (by kernel_rfl) (Xg.opx_pure ((Value.slice xx4.fst xx4.snd.snd.length xx4.snd.fst)) rfl (fun _ => by kernel_rfl) ?_)
    refine Xg.ops_op (by kernel_rfl) (Xg.opx_pure ((Value.bool true)) rfl (fun _ => by kernel_rfl) ?_)
    refine Xg.ops_nil ?_
    refine Xg.at_seq ?_
    refine Xg.at_region ?_
    refine Xg.ops_op (by kernel_rfl) (Xg.opx_pure ((pv xb2 0)) rfl (fun _ => by kernel_rfl) ?_)
    refine Xg.ops_op (by kernel_rfl) (Xg.opx_load (b := xb2) (off := ((0 : Nat))) 4 (Value.slice (some (Addr.mk xx1.fst (0 : Nat) none)) (12 : Nat) (12 : Nat)) rfl (by kernel_rfl) (by kernel_rfl) (by kernel_rfl) ?_)
    refine Xg.ops_op (by kernel_rfl) (Xg.opx_pure (pv xx1.fst 0) rfl (fun _ => by kernel_rfl) ?_)
    refine Xg.ops_op (by kernel_rfl) (Xg.opx_store1 (off := 0) 1 (iv 144) (by kernel_rfl) rfl (by kernel_rfl) (by kernel_rfl) (by kernel_rfl) (Nat.le_of_ble_eq_true (by kernel_rfl)) ?_)
    refine Xg.ops_nil ?_
    refine Xg.at_seq ?_
    refine Xg.at_region ?_
    refine Xg.ops_op (by kernel_rfl) (Xg.opx_loadn (off := 0) 3 4 [Value.slice (some (Addr.mk xx1.fst (0 : Nat) none)) (12 : Nat) (12 : Nat), Value.slice none (0 : Nat) (0 : Nat), Value.slice s.pa s.pn s.pc] (by kernel_rfl) rfl (by kernel_rfl) rfl (Xg.cells_at (by kernel_rfl)) (by kernel_rfl) ?_)
    refine Xg.ops_op (by kernel_rfl) (Xg.opx_callE' [1, 2] (fun xx5 => [ints (5 : TypeId) IntKind.u8 xx5.fst xx5.snd.fst xx5.snd.snd, rowR xx1.fst (144 : Int) (0 : Int) (↑xx1.snd.fst : Int) (↑xx1.snd.snd : Int) (0 : Int) (0 : Int) (0 : Int) (↑xx3 : Int) (0 : Int) (0 : Int) (0 : Int) (0 : Int), A, ints (5 : TypeId) IntKind.u8 xx4.fst xx4.snd.fst xx4.snd.snd, ints (5 : TypeId) IntKind.u8 xx2.fst xx2.snd.fst xx2.snd.snd, row xb2 (36 : Nat) [Value.slice (some (Addr.mk xx1.fst (0 : Nat) none)) (12 : Nat) (12 : Nat), Value.slice none (0 : Nat) (0 : Nat), Value.slice s.pa s.pn s.pc], row xb1 (36 : Nat) [Value.slice s.ra s.rn s.rc, Value.slice s.oa s.on s.oc, Value.slice s.pa s.pn s.pc]]) (fun _ => by kernel_rfl) (@hsh (xx1.fst) (xx1.snd.fst) (xx1.snd.snd) (((144 : Int))) (((↑xx3 : Int))) (by omega) (by omega) (by omega) (by omega)) (by kernel_rfl) (by kernel_rfl) (by kernel_rfl) fun xx5 xh5 => ?_)
    try dsimp only at xh5
    obtain ⟨xh5_0, xh5_1⟩ := xh5
    refine Xg.ops_op (by kernel_rfl) (Xg.opx_pure ((Value.tuple #[Value.slice xx5.fst xx5.snd.snd.length xx5.snd.fst, Value.bool true])) rfl (fun _ => by kernel_rfl) ?_)
    refine Xg.ops_op (by kernel_rfl) (Xg.opx_pure ((Value.slice xx5.fst xx5.snd.snd.length xx5.snd.fst)) rfl (fun _ => by kernel_rfl) ?_)
    refine Xg.ops_op (by kernel_rfl) (Xg.opx_pure ((Value.bool true)) rfl (fun _ => by kernel_rfl) ?_)
    refine Xg.ops_op (by kernel_rfl) (Xg.opx_pure ((Value.slice xx5.fst xx5.snd.snd.length xx5.snd.fst)) rfl (fun _ => by kernel_rfl) ?_)
    refine Xg.ops_op (by kernel_rfl) (Xg.opx_pure ((Value.bool true)) rfl (fun _ => by kernel_rfl) ?_)
    refine Xg.ops_nil ?_
    refine Xg.at_seq ?_
    refine Xg.at_seq ?_
    refine Xg.at_region ?_
    refine Xg.ops_op (by kernel_rfl) (Xg.opx_pure ((Value.bool true)) rfl (fun _ => by kernel_rfl) ?_)
    refine Xg.ops_op (by kernel_rfl) (Xg.opx_pure (.bool false) rfl (fun _ => by kernel_rfl) ?_)
    refine Xg.ops_op (by kernel_rfl) (Xg.opx_pure ((Value.bool false)) rfl (fun _ => by kernel_rfl) ?_)
    refine Xg.ops_op (by kernel_rfl) (Xg.opx_pure ((Value.bool true)) rfl (fun _ => by kernel_rfl) ?_)
    refine Xg.ops_op (by kernel_rfl) (Xg.opx_pure (.bool false) rfl (fun _ => by kernel_rfl) ?_)
    refine Xg.ops_op (by kernel_rfl) (Xg.opx_pure ((Value.bool false)) rfl (fun _ => by kernel_rfl) ?_)
    refine Xg.ops_op (by kernel_rfl) (Xg.opx_pure ((Value.bool false)) rfl (fun _ => by kernel_rfl) ?_)
    refine Xg.ops_op (by kernel_rfl) (Xg.opx_pure ((Value.bool true)) rfl (fun _ => by kernel_rfl) ?_)
    refine Xg.ops_op (by kernel_rfl) (Xg.opx_pure (.bool false) rfl (fun _ => by kernel_rfl) ?_)
    refine Xg.ops_op (by kernel_rfl) (Xg.opx_pure ((Value.bool false)) rfl (fun _ => by kernel_rfl) ?_)
    refine Xg.ops_nil ?_
    refine Xg.at_false (t := false) (by kernel_rfl) rfl ?_
    refine Xg.at_skip ?_
    refine Xg.at_seq ?_
    refine Xg.at_seq ?_
    refine Xg.at_region ?_
    refine Xg.ops_op (by kernel_rfl) (Xg.opx_pure ((iv 0)) rfl (fun _ => by kernel_rfl) ?_)
    refine Xg.ops_nil ?_
    refine Xg.at_block ?_)
  have hf : ∀ i, i < 23040 → xx2.2.2.getD i 0 = groundT s (((i / 160 : Nat) : Int) + (xx1.2.1 : Int) ) 0 ∨ True := fun i hi => .inr trivial
  have hn : ∀ i, i < 23040 → 0 ≤ xx2.2.2.getD i 0 ∧ xx2.2.2.getD i 0 ≤ 3 ∧ xx4.2.2.getD i 0 = (xx3 : Int) / 2 ^ (2 * xx2.2.2.getD i 0).toNat % 4 ∧ xx5.2.2.getD i 0 = (xx3 : Int) % 4 := fun i hi => by
    have q2 := xh2_0.pic (i / 160) (i % 160) (by omega) (by omega)
    have q4 := xh4_0.pic (i / 160) (i % 160) (by omega) (by omega)
    have q5 := xh5_0.pic (i / 160) (i % 160) (by omega) (by omega)
    rw [split_i, plain_pic _ _ _ _ _ _ _ _ _ _ _ _ (by omega) (by omega) (by omega)] at q2 q4
    rw [split_i, none_pic _ _ _ _ _ _ _ _ _ _ _ _ (by omega)] at q5
    obtain ⟨n, hnn⟩ : ∃ n, groundT s (((i / 160 : Nat) : Int) + (xx1.2.1 : Int)) (((i % 160 : Nat) : Int) + (xx1.2.2 : Int)) = n := ⟨_, rfl⟩
    have hb := groundT_bd s ((((i / 160 : Nat) : Int) + (xx1.2.1 : Int)) % 256) ((((i % 160 : Nat) : Int) + (xx1.2.2 : Int)) % 256)
    rw [pal228 hb] at q2
    rw [q2]
    exact ⟨hb.1, hb.2, q4, q5⟩
  have hlens := And.intro xh2_1 (And.intro xh4_1 xh5_1)
  clear hf hsh hpl
  (focus
    refine Xg.at_rounds_inv (α := (Nat) × (Nat → Value)) (fun x => ((fun x => x ≤ 23040) : (Nat) → Prop) x.1) (fun x => ((fun x => 23040 - x) : (Nat) → Nat) x.1) (fun x => Xg.headT [Value.agg #[Value.slice s.ra s.rn s.rc, Value.slice s.oa s.on s.oc, Value.slice s.pa s.pn s.pc], iv bgp, pv xb1 0, tu, Value.bool false, pv xb2 0, Value.slice xx2.fst xx2.snd.snd.length xx2.snd.fst, Value.bool true, iv (↑xx3 : Int), Value.slice xx4.fst xx4.snd.snd.length xx4.snd.fst, Value.bool true, Value.slice xx5.fst xx5.snd.snd.length xx5.snd.fst, Value.bool true, iv 0, Value.agg #[Value.slice s.ra s.rn s.rc, Value.slice s.oa s.on s.oc, Value.slice s.pa s.pn s.pc], Value.agg #[Value.slice (some (Addr.mk xx1.fst (0 : Nat) none)) (12 : Nat) (12 : Nat), Value.slice none (0 : Nat) (0 : Nat), Value.slice s.pa s.pn s.pc], Value.tuple #[Value.slice xx2.fst xx2.snd.snd.length xx2.snd.fst, Value.bool true], Value.agg #[Value.slice (some (Addr.mk xx1.fst (0 : Nat) none)) (12 : Nat) (12 : Nat), Value.slice none (0 : Nat) (0 : Nat), Value.slice s.pa s.pn s.pc], Value.tuple #[Value.slice xx2.fst xx2.snd.snd.length xx2.snd.fst, Value.bool true], Value.slice xx2.fst xx2.snd.snd.length xx2.snd.fst, Value.bool true, iv bgp, iv (↑xx3 : Int), pv xb2 0, Value.slice (some (Addr.mk xx1.fst (0 : Nat) none)) (12 : Nat) (12 : Nat), iv (↑xx3 : Int), pv xx1.fst 7, Value.tuple #[Value.slice xx4.fst xx4.snd.snd.length xx4.snd.fst, Value.bool true], Value.agg #[Value.slice (some (Addr.mk xx1.fst (0 : Nat) none)) (12 : Nat) (12 : Nat), Value.slice none (0 : Nat) (0 : Nat), Value.slice s.pa s.pn s.pc], Value.tuple #[Value.slice xx4.fst xx4.snd.snd.length xx4.snd.fst, Value.bool true], Value.slice xx4.fst xx4.snd.snd.length xx4.snd.fst, Value.bool true, pv xb2 0, Value.slice (some (Addr.mk xx1.fst (0 : Nat) none)) (12 : Nat) (12 : Nat), pv xx1.fst 0, Value.tuple #[Value.slice xx5.fst xx5.snd.snd.length xx5.snd.fst, Value.bool true], Value.agg #[Value.slice (some (Addr.mk xx1.fst (0 : Nat) none)) (12 : Nat) (12 : Nat), Value.slice none (0 : Nat) (0 : Nat), Value.slice s.pa s.pn s.pc], Value.tuple #[Value.slice xx5.fst xx5.snd.snd.length xx5.snd.fst, Value.bool true], Value.slice xx5.fst xx5.snd.snd.length xx5.snd.fst, Value.bool true, Value.bool true, Value.bool false, Value.bool false, Value.bool true, Value.bool false, Value.bool false, Value.bool false, Value.bool true, Value.bool false, Value.bool false, tu, tu, tu, tu, tu, tu, tu, tu, tu, tu, tu, tu, tu, tu, tu, tu, tu, tu, tu, tu, tu, tu, tu, tu, tu, tu, tu, tu, tu, tu] [4, 50, 51, 52, 53, 54, 55, 56, 57, 58, 59, 60, 61, 62, 63, 64, 65, 66, 67, 68, 69, 70, 71, 72, 73, 74, 75, 76, 77, 78, 79] (((fun x => [(13, .int .i64 (x : Nat))]) : (Nat) → List (Nat × Go.Value)) x.1) x.2) (fun x => ((fun x => [ints 5 .u8 xx5.1 xx5.2.1 xx5.2.2, rowR xx1.1 144 0 (xx1.2.1 : Nat) (xx1.2.2 : Nat) 0 0 0 (xx3 : Nat) 0 0 0 0, A, ints 5 .u8 xx4.1 xx4.2.1 xx4.2.2, ints 5 .u8 xx2.1 xx2.2.1 xx2.2.2, row xb2 36 [.slice (some ⟨xx1.1, 0, none⟩) 12 12, .slice none 0 0, .slice s.pa s.pn s.pc], row xb1 36 [.slice s.ra s.rn s.rc, .slice s.oa s.on s.oc, .slice s.pa s.pn s.pc]]) : (Nat) → List Go.Sl.HP) x.1) ((0), fun j => ([Value.agg #[Value.slice s.ra s.rn s.rc, Value.slice s.oa s.on s.oc, Value.slice s.pa s.pn s.pc], iv bgp, pv xb1 0, tu, Value.bool false, pv xb2 0, Value.slice xx2.fst xx2.snd.snd.length xx2.snd.fst, Value.bool true, iv (↑xx3 : Int), Value.slice xx4.fst xx4.snd.snd.length xx4.snd.fst, Value.bool true, Value.slice xx5.fst xx5.snd.snd.length xx5.snd.fst, Value.bool true, iv 0, Value.agg #[Value.slice s.ra s.rn s.rc, Value.slice s.oa s.on s.oc, Value.slice s.pa s.pn s.pc], Value.agg #[Value.slice (some (Addr.mk xx1.fst (0 : Nat) none)) (12 : Nat) (12 : Nat), Value.slice none (0 : Nat) (0 : Nat), Value.slice s.pa s.pn s.pc], Value.tuple #[Value.slice xx2.fst xx2.snd.snd.length xx2.snd.fst, Value.bool true], Value.agg #[Value.slice (some (Addr.mk xx1.fst (0 : Nat) none)) (12 : Nat) (12 : Nat), Value.slice none (0 : Nat) (0 : Nat), Value.slice s.pa s.pn s.pc], Value.tuple #[Value.slice xx2.fst xx2.snd.snd.length xx2.snd.fst, Value.bool true], Value.slice xx2.fst xx2.snd.snd.length xx2.snd.fst, Value.bool true, iv bgp, iv (↑xx3 : Int), pv xb2 0, Value.slice (some (Addr.mk xx1.fst (0 : Nat) none)) (12 : Nat) (12 : Nat), iv (↑xx3 : Int), pv xx1.fst 7, Value.tuple #[Value.slice xx4.fst xx4.snd.snd.length xx4.snd.fst, Value.bool true], Value.agg #[Value.slice (some (Addr.mk xx1.fst (0 : Nat) none)) (12 : Nat) (12 : Nat), Value.slice none (0 : Nat) (0 : Nat), Value.slice s.pa s.pn s.pc], Value.tuple #[Value.slice xx4.fst xx4.snd.snd.length xx4.snd.fst, Value.bool true], Value.slice xx4.fst xx4.snd.snd.length xx4.snd.fst, Value.bool true, pv xb2 0, Value.slice (some (Addr.mk xx1.fst (0 : Nat) none)) (12 : Nat) (12 : Nat), pv xx1.fst 0, Value.tuple #[Value.slice xx5.fst xx5.snd.snd.length xx5.snd.fst, Value.bool true], Value.agg #[Value.slice (some (Addr.mk xx1.fst (0 : Nat) none)) (12 : Nat) (12 : Nat), Value.slice none (0 : Nat) (0 : Nat), Value.slice s.pa s.pn s.pc], Value.tuple #[Value.slice xx5.fst xx5.snd.snd.length xx5.snd.fst, Value.bool true], Value.slice xx5.fst xx5.snd.snd.length xx5.snd.fst, Value.bool true, Value.bool true, Value.bool false, Value.bool false, Value.bool true, Value.bool false, Value.bool false, Value.bool false, Value.bool true, Value.bool false, Value.bool false, tu, tu, tu, tu, tu, tu, tu, tu, tu, tu, tu, tu, tu, tu, tu, tu, tu, tu, tu, tu, tu, tu, tu, tu, tu, tu, tu, tu, tu, tu] : List Value).getD j undef) (by kernel_rfl) (by kernel_rfl) ?_ ?_)
  · exact Nat.zero_le _
  rintro ⟨i, J⟩ hi ih
  dsimp only at hi
  (focus
    refine Xg.At.same (T' := [Value.agg #[Value.slice s.ra s.rn s.rc, Value.slice s.oa s.on s.oc, Value.slice s.pa s.pn s.pc], iv bgp, pv xb1 0, tu, J 4, pv xb2 0, Value.slice xx2.fst xx2.snd.snd.length xx2.snd.fst, Value.bool true, iv (↑xx3 : Int), Value.slice xx4.fst xx4.snd.snd.length xx4.snd.fst, Value.bool true, Value.slice xx5.fst xx5.snd.snd.length xx5.snd.fst, Value.bool true, iv (↑i : Int), Value.agg #[Value.slice s.ra s.rn s.rc, Value.slice s.oa s.on s.oc, Value.slice s.pa s.pn s.pc], Value.agg #[Value.slice (some (Addr.mk xx1.fst (0 : Nat) none)) (12 : Nat) (12 : Nat), Value.slice none (0 : Nat) (0 : Nat), Value.slice s.pa s.pn s.pc], Value.tuple #[Value.slice xx2.fst xx2.snd.snd.length xx2.snd.fst, Value.bool true], Value.agg #[Value.slice (some (Addr.mk xx1.fst (0 : Nat) none)) (12 : Nat) (12 : Nat), Value.slice none (0 : Nat) (0 : Nat), Value.slice s.pa s.pn s.pc], Value.tuple #[Value.slice xx2.fst xx2.snd.snd.length xx2.snd.fst, Value.bool true], Value.slice xx2.fst xx2.snd.snd.length xx2.snd.fst, Value.bool true, iv bgp, iv (↑xx3 : Int), pv xb2 0, Value.slice (some (Addr.mk xx1.fst (0 : Nat) none)) (12 : Nat) (12 : Nat), iv (↑xx3 : Int), pv xx1.fst 7, Value.tuple #[Value.slice xx4.fst xx4.snd.snd.length xx4.snd.fst, Value.bool true], Value.agg #[Value.slice (some (Addr.mk xx1.fst (0 : Nat) none)) (12 : Nat) (12 : Nat), Value.slice none (0 : Nat) (0 : Nat), Value.slice s.pa s.pn s.pc], Value.tuple #[Value.slice xx4.fst xx4.snd.snd.length xx4.snd.fst, Value.bool true], Value.slice xx4.fst xx4.snd.snd.length xx4.snd.fst, Value.bool true, pv xb2 0, Value.slice (some (Addr.mk xx1.fst (0 : Nat) none)) (12 : Nat) (12 : Nat), pv xx1.fst 0, Value.tuple #[Value.slice xx5.fst xx5.snd.snd.length xx5.snd.fst, Value.bool true], Value.agg #[Value.slice (some (Addr.mk xx1.fst (0 : Nat) none)) (12 : Nat) (12 : Nat), Value.slice none (0 : Nat) (0 : Nat), Value.slice s.pa s.pn s.pc], Value.tuple #[Value.slice xx5.fst xx5.snd.snd.length xx5.snd.fst, Value.bool true], Value.slice xx5.fst xx5.snd.snd.length xx5.snd.fst, Value.bool true, Value.bool true, Value.bool false, Value.bool false, Value.bool true, Value.bool false, Value.bool false, Value.bool false, Value.bool true, Value.bool false, Value.bool false, J 50, J 51, J 52, J 53, J 54, J 55, J 56, J 57, J 58, J 59, J 60, J 61, J 62, J 63, J 64, J 65, J 66, J 67, J 68, J 69, J 70, J 71, J 72, J 73, J 74, J 75, J 76, J 77, J 78, J 79]) (L' := [ints (5 : TypeId) IntKind.u8 xx5.fst xx5.snd.fst xx5.snd.snd, rowR xx1.fst (144 : Int) (0 : Int) (↑xx1.snd.fst : Int) (↑xx1.snd.snd : Int) (0 : Int) (0 : Int) (0 : Int) (↑xx3 : Int) (0 : Int) (0 : Int) (0 : Int) (0 : Int), A, ints (5 : TypeId) IntKind.u8 xx4.fst xx4.snd.fst xx4.snd.snd, ints (5 : TypeId) IntKind.u8 xx2.fst xx2.snd.fst xx2.snd.snd, row xb2 (36 : TypeId) [Value.slice (some (Addr.mk xx1.fst (0 : Nat) none)) (12 : Nat) (12 : Nat), Value.slice none (0 : Nat) (0 : Nat), Value.slice s.pa s.pn s.pc], row xb1 (36 : TypeId) [Value.slice s.ra s.rn s.rc, Value.slice s.oa s.on s.oc, Value.slice s.pa s.pn s.pc]]) (by kernel_rfl) rfl ?_)
  by_cases hlt : i < 23040
  · obtain ⟨h1, h2, h3, h4⟩ := hn i hlt
    have hb3 := band_3 (xx3 : Int)
    have hx : xx4.2.2.getD i 0 = band .i64 (Int.fdiv (xx3 : Int) (2 ^ min (2 * xx2.2.2.getD i 0).toNat (IntKind.bits .i64))) 3 := by
      rw [show min (2 * xx2.2.2.getD i 0).toNat (IntKind.bits .i64) = (2 * xx2.2.2.getD i 0).toNat from Nat.min_eq_left (by show _ ≤ 64; omega), shr_div _ _ (Int.pow_pos (by omega)), band_3]
      exact h3
    have hy : xx5.2.2.getD i 0 = band .i64 (xx3 : Int) 3 := by rw [hb3]; exact h4
    (focus
      refine Xg.at_seq ?_
      refine Xg.at_seq ?_
      refine Xg.at_region ?_
      refine Xg.ops_op (by kernel_rfl) (Xg.opx_pure ((iv (↑i : Int))) rfl (fun _ => by kernel_rfl) ?_)
      refine Xg.ops_op (by kernel_rfl) (Xg.opx_pure ((Value.slice xx2.fst xx2.snd.snd.length xx2.snd.fst)) rfl (fun _ => by kernel_rfl) ?_)
      refine Xg.ops_op (by kernel_rfl) (Xg.opx_pure ((iv (↑xx2.snd.snd.length : Int))) rfl (fun _ => by kernel_rfl) ?_)
      refine Xg.ops_op (by kernel_rfl) (Xg.opx_pure (.bool (decide ((((↑i : Int)) : Int) < ((↑xx2.snd.snd.length : Int))))) rfl (fun _ => by kernel_rfl) ?_)
      refine Xg.ops_nil ?_
      refine Xg.at_true (t := decide (((↑i : Int) < (↑xx2.snd.snd.length : Int)))) (by kernel_rfl) (decide_eq_true (by omega)) ?_
      refine Xg.at_skip ?_
      refine Xg.at_seq ?_
      refine Xg.at_block ?_
      refine Xg.at_seq ?_
      refine Xg.at_draw [] [(2, [0, 1, 2, 5, 6, 7, 8, 9, 10, 11, 12], (RdIs (1 : Nat) (Value.slice xx4.fst xx4.snd.snd.length xx4.snd.fst) xx4.snd.snd.length (List.map (Value.int IntKind.u8) xx4.snd.snd))), (3, [0, 1, 2, 3, 5, 6, 7, 8, 9, 10, 11, 12], (RdIs (1 : Nat) (Value.slice xx4.fst xx4.snd.snd.length xx4.snd.fst) xx4.snd.snd.length (List.map (Value.int IntKind.u8) xx4.snd.snd))), (8, [0, 1, 2, 3, 4, 5, 6, 7, 8], (RdIs (1 : Nat) (Value.slice xx2.fst xx2.snd.snd.length xx2.snd.fst) xx2.snd.snd.length (List.map (Value.int IntKind.u8) xx2.snd.snd))), (9, [0, 1, 2, 3, 4, 5, 6, 7, 8, 9], (RdIs (1 : Nat) (Value.slice xx2.fst xx2.snd.snd.length xx2.snd.fst) xx2.snd.snd.length (List.map (Value.int IntKind.u8) xx2.snd.snd))), (17, [0, 1, 2, 3, 4, 5, 6, 7, 8, 9, 10, 11, 12, 13, 14, 15, 16, 17, 20, 21], (RdIs (1 : Nat) (Value.slice xx5.fst xx5.snd.snd.length xx5.snd.fst) xx5.snd.snd.length (List.map (Value.int IntKind.u8) xx5.snd.snd))), (18, [0, 1, 2, 3, 4, 5, 6, 7, 8, 9, 10, 11, 12, 13, 14, 15, 16, 17, 18, 20, 21], (RdIs (1 : Nat) (Value.slice xx5.fst xx5.snd.snd.length xx5.snd.fst) xx5.snd.snd.length (List.map (Value.int IntKind.u8) xx5.snd.snd)))] (by kernel_rfl) ?_
      refine Xg.any_pure ((Value.slice xx4.fst xx4.snd.snd.length xx4.snd.fst)) 0 (by kernel_rfl) rfl (by kernel_rfl) (by kernel_rfl) (by kernel_rfl) (by kernel_rfl) rfl (fun _ => by kernel_rfl) ?_
      refine Xg.any_pure ((iv (↑i : Int))) 1 (by kernel_rfl) rfl (by kernel_rfl) (by kernel_rfl) (by kernel_rfl) (by kernel_rfl) rfl (fun _ => by kernel_rfl) ?_
      refine Xg.any_reads (.pointer (some (Addr.mk (Xg.blk xx4.fst) (offA xx4.fst + i) none))) 2 0 (by kernel_rfl) rfl (by kernel_rfl) (by kernel_rfl) (by kernel_rfl) (by kernel_rfl) rfl rfl (by kernel_rfl) (Xg.rd_now 3 (Xg.reads_own (E := ((5 : TypeId))) (sz := ((1 : Nat))) (n := xx4.snd.snd.length) (c := xx4.snd.fst) (a := xx4.fst) (vs := (List.map (Value.int IntKind.u8) xx4.snd.snd))) (by kernel_rfl)) (Xg.run_ix_rd (elem := 5) (kd := .i64) (e := ((↑i : Int))) 1 i (offA xx4.fst + i) (by kernel_rfl) (by kernel_rfl) (by kernel_rfl) (by kernel_rfl) rfl (by omega) (by simp only [List.length_map]; omega) (by omega)) ?_
      refine Xg.any_reads (uv (xx4.snd.snd.getD i (0 : Int))) 3 1 (by kernel_rfl) rfl (by kernel_rfl) (by kernel_rfl) (by kernel_rfl) (by kernel_rfl) rfl rfl (by kernel_rfl) (Xg.rd_now 3 (Xg.reads_own (E := ((5 : TypeId))) (sz := ((1 : Nat))) (n := xx4.snd.snd.length) (c := xx4.snd.fst) (a := xx4.fst) (vs := (List.map (Value.int IntKind.u8) xx4.snd.snd))) (by kernel_rfl)) (Xg.run_load_rd (off0 := (offA xx4.fst + i)) i (by kernel_rfl) (by omega) (Xg.get_ints (by omega)) (by kernel_rfl)) ?_
      refine Xg.any_int .i64 (IntKind.wrap .i64 ((xx4.snd.snd.getD i (0 : Int)))) 4 (by kernel_rfl) rfl (by kernel_rfl) (by kernel_rfl) (by kernel_rfl) (by kernel_rfl) rfl (fun _ => by kernel_rfl) (Xg.wrap_i64_in (by omega)) ?_
      refine Xg.any_pure ((iv (↑xx3 : Int))) 5 (by kernel_rfl) rfl (by kernel_rfl) (by kernel_rfl) (by kernel_rfl) (by kernel_rfl) rfl (fun _ => by kernel_rfl) ?_
      refine Xg.any_pure ((Value.slice xx2.fst xx2.snd.snd.length xx2.snd.fst)) 6 (by kernel_rfl) rfl (by kernel_rfl) (by kernel_rfl) (by kernel_rfl) (by kernel_rfl) rfl (fun _ => by kernel_rfl) ?_
      refine Xg.any_pure ((iv (↑i : Int))) 7 (by kernel_rfl) rfl (by kernel_rfl) (by kernel_rfl) (by kernel_rfl) (by kernel_rfl) rfl (fun _ => by kernel_rfl) ?_
      refine Xg.any_reads (.pointer (some (Addr.mk (Xg.blk xx2.fst) (offA xx2.fst + i) none))) 8 2 (by kernel_rfl) rfl (by kernel_rfl) (by kernel_rfl) (by kernel_rfl) (by kernel_rfl) rfl rfl (by kernel_rfl) (Xg.rd_now 4 (Xg.reads_own (E := ((5 : TypeId))) (sz := ((1 : Nat))) (n := xx2.snd.snd.length) (c := xx2.snd.fst) (a := xx2.fst) (vs := (List.map (Value.int IntKind.u8) xx2.snd.snd))) (by kernel_rfl)) (Xg.run_ix_rd (elem := 5) (kd := .i64) (e := ((↑i : Int))) 1 i (offA xx2.fst + i) (by kernel_rfl) (by kernel_rfl) (by kernel_rfl) (by kernel_rfl) rfl (by omega) (by simp only [List.length_map]; omega) (by omega)) ?_
      refine Xg.any_reads (uv (xx2.snd.snd.getD i (0 : Int))) 9 3 (by kernel_rfl) rfl (by kernel_rfl) (by kernel_rfl) (by kernel_rfl) (by kernel_rfl) rfl rfl (by kernel_rfl) (Xg.rd_now 4 (Xg.reads_own (E := ((5 : TypeId))) (sz := ((1 : Nat))) (n := xx2.snd.snd.length) (c := xx2.snd.fst) (a := xx2.fst) (vs := (List.map (Value.int IntKind.u8) xx2.snd.snd))) (by kernel_rfl)) (Xg.run_load_rd (off0 := (offA xx2.fst + i)) i (by kernel_rfl) (by omega) (Xg.get_ints (by omega)) (by kernel_rfl)) ?_
      refine Xg.any_int .u8 (IntKind.wrap .u8 (((2 : Int) * xx2.snd.snd.getD i (0 : Int)))) 10 (by kernel_rfl) rfl (by kernel_rfl) (by kernel_rfl) (by kernel_rfl) (by kernel_rfl) rfl (fun _ => by kernel_rfl) (Xg.wrap_u8_in (by omega)) ?_
      refine Xg.any_pure (.int .i64 (Int.fdiv ((↑xx3 : Int)) (2 ^ min (Int.toNat ((2 : Int) * xx2.snd.snd.getD i (0 : Int))) (IntKind.bits .i64)))) 11 (by kernel_rfl) rfl (by kernel_rfl) (by kernel_rfl) (by kernel_rfl) (by kernel_rfl) rfl (fun _ => Xg.run_shr (k1 := .i64) (k2 := .u8) (m := ((↑xx3 : Int))) (e := ((2 : Int) * xx2.snd.snd.getD i (0 : Int))) (by kernel_rfl) (by kernel_rfl) (by omega)) ?_
      refine Xg.any_pure (.int .i64 (Xg.band .i64 (((↑xx3 : Int).fdiv ((2 : Int) ^ min ((2 : Int) * xx2.snd.snd.getD i (0 : Int)).toNat IntKind.i64.bits))) (((3 : Int))))) 12 (by kernel_rfl) rfl (by kernel_rfl) (by kernel_rfl) (by kernel_rfl) (by kernel_rfl) rfl (fun _ => by kernel_rfl) ?_
      refine Xg.any_pure (.bool (!decide (((xx4.snd.snd.getD i (0 : Int)) : Int) = (band IntKind.i64 ((↑xx3 : Int).fdiv ((2 : Int) ^ min ((2 : Int) * xx2.snd.snd.getD i (0 : Int)).toNat IntKind.i64.bits)) (3 : Int))))) 13 (by kernel_rfl) rfl (by kernel_rfl) (by kernel_rfl) (by kernel_rfl) (by kernel_rfl) rfl (fun _ => by kernel_rfl) ?_
      refine Xg.any_pure ((Value.bool !decide (xx4.snd.snd.getD i (0 : Int) = band IntKind.i64 ((↑xx3 : Int).fdiv ((2 : Int) ^ min ((2 : Int) * xx2.snd.snd.getD i (0 : Int)).toNat IntKind.i64.bits)) (3 : Int)))) 14 (by kernel_rfl) rfl (by kernel_rfl) (by kernel_rfl) (by kernel_rfl) (by kernel_rfl) rfl (fun _ => by kernel_rfl) ?_
      refine Xg.any_flag (j := 70) (c := (!decide (xx4.snd.snd.getD i (0 : Int) = band IntKind.i64 ((↑xx3 : Int).fdiv ((2 : Int) ^ min ((2 : Int) * xx2.snd.snd.getD i (0 : Int)).toNat IntKind.i64.bits)) (3 : Int)))) (by kernel_rfl) (fun xh6 => absurd xh6 (by rw [decide_eq_true (p := (xx4.snd.snd.getD i (0 : Int) = band IntKind.i64 ((↑xx3 : Int).fdiv ((2 : Int) ^ min ((2 : Int) * xx2.snd.snd.getD i (0 : Int)).toNat IntKind.i64.bits)) (3 : Int))) (by omega)]; decide)) (fun _ => ?_)
      refine Xg.any_pure ((Value.slice xx5.fst xx5.snd.snd.length xx5.snd.fst)) 15 (by kernel_rfl) rfl (by kernel_rfl) (by kernel_rfl) (by kernel_rfl) (by kernel_rfl) rfl (fun _ => by kernel_rfl) ?_
      refine Xg.any_pure ((iv (↑i : Int))) 16 (by kernel_rfl) rfl (by kernel_rfl) (by kernel_rfl) (by kernel_rfl) (by kernel_rfl) rfl (fun _ => by kernel_rfl) ?_
      refine Xg.any_reads (.pointer (some (Addr.mk (Xg.blk xx5.fst) (offA xx5.fst + i) none))) 17 4 (by kernel_rfl) rfl (by kernel_rfl) (by kernel_rfl) (by kernel_rfl) (by kernel_rfl) rfl rfl (by kernel_rfl) (Xg.rd_now 0 (Xg.reads_own (E := ((5 : TypeId))) (sz := ((1 : Nat))) (n := xx5.snd.snd.length) (c := xx5.snd.fst) (a := xx5.fst) (vs := (List.map (Value.int IntKind.u8) xx5.snd.snd))) (by kernel_rfl)) (Xg.run_ix_rd (elem := 5) (kd := .i64) (e := ((↑i : Int))) 1 i (offA xx5.fst + i) (by kernel_rfl) (by kernel_rfl) (by kernel_rfl) (by kernel_rfl) rfl (by omega) (by simp only [List.length_map]; omega) (by omega)) ?_
      refine Xg.any_reads (uv (xx5.snd.snd.getD i (0 : Int))) 18 5 (by kernel_rfl) rfl (by kernel_rfl) (by kernel_rfl) (by kernel_rfl) (by kernel_rfl) rfl rfl (by kernel_rfl) (Xg.rd_now 0 (Xg.reads_own (E := ((5 : TypeId))) (sz := ((1 : Nat))) (n := xx5.snd.snd.length) (c := xx5.snd.fst) (a := xx5.fst) (vs := (List.map (Value.int IntKind.u8) xx5.snd.snd))) (by kernel_rfl)) (Xg.run_load_rd (off0 := (offA xx5.fst + i)) i (by kernel_rfl) (by omega) (Xg.get_ints (by omega)) (by kernel_rfl)) ?_
      refine Xg.any_int .i64 (IntKind.wrap .i64 ((xx5.snd.snd.getD i (0 : Int)))) 19 (by kernel_rfl) rfl (by kernel_rfl) (by kernel_rfl) (by kernel_rfl) (by kernel_rfl) rfl (fun _ => by kernel_rfl) (Xg.wrap_i64_in (by omega)) ?_
      refine Xg.any_pure ((iv (↑xx3 : Int))) 20 (by kernel_rfl) rfl (by kernel_rfl) (by kernel_rfl) (by kernel_rfl) (by kernel_rfl) rfl (fun _ => by kernel_rfl) ?_
      refine Xg.any_pure (.int .i64 (Xg.band .i64 (((↑xx3 : Int))) (((3 : Int))))) 21 (by kernel_rfl) rfl (by kernel_rfl) (by kernel_rfl) (by kernel_rfl) (by kernel_rfl) rfl (fun _ => by kernel_rfl) ?_
      refine Xg.any_pure (.bool (!decide (((xx5.snd.snd.getD i (0 : Int)) : Int) = (band IntKind.i64 (↑xx3 : Int) (3 : Int))))) 22 (by kernel_rfl) rfl (by kernel_rfl) (by kernel_rfl) (by kernel_rfl) (by kernel_rfl) rfl (fun _ => by kernel_rfl) ?_
      refine Xg.any_flag (j := 78) (c := (!decide (xx5.snd.snd.getD i (0 : Int) = band IntKind.i64 (↑xx3 : Int) (3 : Int)))) (by kernel_rfl) (fun xh6 => absurd xh6 (by rw [decide_eq_true (p := (xx5.snd.snd.getD i (0 : Int) = band IntKind.i64 (↑xx3 : Int) (3 : Int))) (by omega)]; decide)) (fun _ => ?_)
      refine Xg.any_pure ((Value.bool false)) 23 (by kernel_rfl) rfl (by kernel_rfl) (by kernel_rfl) (by kernel_rfl) (by kernel_rfl) rfl (fun _ => by kernel_rfl) ?_
      refine Xg.any_nil (by kernel_rfl) ?_
      refine Xg.at_false (t := false) (by kernel_rfl) rfl ?_
      refine Xg.at_skip ?_
      refine Xg.at_inBlock ?_
      refine Xg.at_region ?_
      refine Xg.ops_op (by kernel_rfl) (Xg.opx_pure ((iv (↑i : Int))) rfl (fun _ => by kernel_rfl) ?_)
      refine Xg.ops_op (by kernel_rfl) (Xg.opx_int .i64 (IntKind.wrap .i64 (((↑i : Int) + (1 : Int)))) rfl (fun _ => by kernel_rfl) (Xg.wrap_i64_in (by omega)) ?_)
      refine Xg.ops_op (by kernel_rfl) (Xg.opx_pure ((iv ((↑i : Int) + (1 : Int)))) rfl (fun _ => by kernel_rfl) ?_)
      refine Xg.ops_nil ?_
      refine Xg.at_inLoop ?_)
    (focus
      refine Xg.at_keep [0, 1, 2, 3, 4, 5, 6] (by kernel_rfl) ?_
      refine Xg.At.same (by kernel_rfl) ?_ (ih (((i + 1)), fun j => ([Value.agg #[Value.slice s.ra s.rn s.rc, Value.slice s.oa s.on s.oc, Value.slice s.pa s.pn s.pc], iv bgp, pv xb1 0, tu, J 4, pv xb2 0, Value.slice xx2.fst xx2.snd.snd.length xx2.snd.fst, Value.bool true, iv (↑xx3 : Int), Value.slice xx4.fst xx4.snd.snd.length xx4.snd.fst, Value.bool true, Value.slice xx5.fst xx5.snd.snd.length xx5.snd.fst, Value.bool true, iv ((↑i : Int) + (1 : Int)), Value.agg #[Value.slice s.ra s.rn s.rc, Value.slice s.oa s.on s.oc, Value.slice s.pa s.pn s.pc], Value.agg #[Value.slice (some (Addr.mk xx1.fst (0 : Nat) none)) (12 : Nat) (12 : Nat), Value.slice none (0 : Nat) (0 : Nat), Value.slice s.pa s.pn s.pc], Value.tuple #[Value.slice xx2.fst xx2.snd.snd.length xx2.snd.fst, Value.bool true], Value.agg #[Value.slice (some (Addr.mk xx1.fst (0 : Nat) none)) (12 : Nat) (12 : Nat), Value.slice none (0 : Nat) (0 : Nat), Value.slice s.pa s.pn s.pc], Value.tuple #[Value.slice xx2.fst xx2.snd.snd.length xx2.snd.fst, Value.bool true], Value.slice xx2.fst xx2.snd.snd.length xx2.snd.fst, Value.bool true, iv bgp, iv (↑xx3 : Int), pv xb2 0, Value.slice (some (Addr.mk xx1.fst (0 : Nat) none)) (12 : Nat) (12 : Nat), iv (↑xx3 : Int), pv xx1.fst 7, Value.tuple #[Value.slice xx4.fst xx4.snd.snd.length xx4.snd.fst, Value.bool true], Value.agg #[Value.slice (some (Addr.mk xx1.fst (0 : Nat) none)) (12 : Nat) (12 : Nat), Value.slice none (0 : Nat) (0 : Nat), Value.slice s.pa s.pn s.pc], Value.tuple #[Value.slice xx4.fst xx4.snd.snd.length xx4.snd.fst, Value.bool true], Value.slice xx4.fst xx4.snd.snd.length xx4.snd.fst, Value.bool true, pv xb2 0, Value.slice (some (Addr.mk xx1.fst (0 : Nat) none)) (12 : Nat) (12 : Nat), pv xx1.fst 0, Value.tuple #[Value.slice xx5.fst xx5.snd.snd.length xx5.snd.fst, Value.bool true], Value.agg #[Value.slice (some (Addr.mk xx1.fst (0 : Nat) none)) (12 : Nat) (12 : Nat), Value.slice none (0 : Nat) (0 : Nat), Value.slice s.pa s.pn s.pc], Value.tuple #[Value.slice xx5.fst xx5.snd.snd.length xx5.snd.fst, Value.bool true], Value.slice xx5.fst xx5.snd.snd.length xx5.snd.fst, Value.bool true, Value.bool true, Value.bool false, Value.bool false, Value.bool true, Value.bool false, Value.bool false, Value.bool false, Value.bool true, Value.bool false, Value.bool false, iv (↑i : Int), Value.slice xx2.fst xx2.snd.snd.length xx2.snd.fst, iv (↑xx2.snd.snd.length : Int), Value.bool (decide ((↑i : Int) < (↑xx2.snd.snd.length : Int))), iv (↑i : Int), iv ((↑i : Int) + (1 : Int)), Value.slice xx4.fst xx4.snd.snd.length xx4.snd.fst, iv (↑i : Int), Value.pointer (some (Addr.mk (blk xx4.fst) (offA xx4.fst + i) none)), uv (xx4.snd.snd.getD i (0 : Int)), iv (xx4.snd.snd.getD i (0 : Int)), iv (↑xx3 : Int), Value.slice xx2.fst xx2.snd.snd.length xx2.snd.fst, iv (↑i : Int), Value.pointer (some (Addr.mk (blk xx2.fst) (offA xx2.fst + i) none)), uv (xx2.snd.snd.getD i (0 : Int)), uv ((2 : Int) * xx2.snd.snd.getD i (0 : Int)), iv ((↑xx3 : Int).fdiv ((2 : Int) ^ min ((2 : Int) * xx2.snd.snd.getD i (0 : Int)).toNat IntKind.i64.bits)), iv (band IntKind.i64 ((↑xx3 : Int).fdiv ((2 : Int) ^ min ((2 : Int) * xx2.snd.snd.getD i (0 : Int)).toNat IntKind.i64.bits)) (3 : Int)), Value.bool !decide (xx4.snd.snd.getD i (0 : Int) = band IntKind.i64 ((↑xx3 : Int).fdiv ((2 : Int) ^ min ((2 : Int) * xx2.snd.snd.getD i (0 : Int)).toNat IntKind.i64.bits)) (3 : Int)), Value.bool false, Value.slice xx5.fst xx5.snd.snd.length xx5.snd.fst, iv (↑i : Int), Value.pointer (some (Addr.mk (blk xx5.fst) (offA xx5.fst + i) none)), uv (xx5.snd.snd.getD i (0 : Int)), iv (xx5.snd.snd.getD i (0 : Int)), iv (↑xx3 : Int), iv (band IntKind.i64 (↑xx3 : Int) (3 : Int)), Value.bool false, Value.bool false] : List Value).getD j undef) ?_ ?_))
    · rfl
    · dsimp only; omega
    · dsimp only; omega
  · clear ih
    (focus
      refine Xg.at_seq ?_
      refine Xg.at_seq ?_
      refine Xg.at_region ?_
      refine Xg.ops_op (by kernel_rfl) (Xg.opx_pure ((iv (↑i : Int))) rfl (fun _ => by kernel_rfl) ?_)
      refine Xg.ops_op (by kernel_rfl) (Xg.opx_pure ((Value.slice xx2.fst xx2.snd.snd.length xx2.snd.fst)) rfl (fun _ => by kernel_rfl) ?_)
      refine Xg.ops_op (by kernel_rfl) (Xg.opx_pure ((iv (↑xx2.snd.snd.length : Int))) rfl (fun _ => by kernel_rfl) ?_)
      refine Xg.ops_op (by kernel_rfl) (Xg.opx_pure (.bool (decide ((((↑i : Int)) : Int) < ((↑xx2.snd.snd.length : Int))))) rfl (fun _ => by kernel_rfl) ?_)
      refine Xg.ops_nil ?_
      refine Xg.at_false (t := decide (((↑i : Int) < (↑xx2.snd.snd.length : Int)))) (by kernel_rfl) (decide_eq_false (by omega)) ?_
      refine Xg.at_exit rfl ?_
      refine Xg.at_seq ?_
      refine Xg.at_region ?_
      refine Xg.ops_op (by kernel_rfl) (Xg.opx_pure ((Value.bool true)) rfl (fun _ => by kernel_rfl) ?_)
      refine Xg.ops_nil ?_
      refine Xg.at_ret_ps (v := (Value.bool true)) [2] [A] Go.Proofs.Try.func7 (fun _ => by kernel_rfl) (by kernel_rfl) (by kernel_rfl) ?_
      exact ⟨by kernel_rfl, by kernel_rfl⟩)

end Go.Proofs.Ytkfclamiendamaa
