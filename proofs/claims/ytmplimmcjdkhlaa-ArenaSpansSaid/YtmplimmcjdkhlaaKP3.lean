/- The arena package: New, Open, Close. -/
import Derived.Test.YtmplimmcjdkhlaaKP2
import Derived.Test.YtmplimmcjdkhlaaKS
namespace Go.Proofs.Ytmplimmcjdkhlaa
open Go.Sl Go.Xg
set_option linter.unusedVariables false
set_option linter.unusedSimpArgs false
set_option linter.unnecessarySimpa false
set_option maxHeartbeats 4000000
set_option maxRecDepth 100000


theorem does_weak {f : FuncId} {args : List Value} {pre : List HP} {α β : Type} {p : α → Prop} {V : α → Value} {PS : α → List HP} {q : β → Prop} {V' : β → Value} {QS : β → List HP} (h : Does Try.prog f args pre (RetE p V PS))
    (hw : ∀ x, p x → ∃ y, q y ∧ V x = V' y ∧ ∀ g w L, SL g (PS x ++ L) w → SL g (QS y ++ L) w) : Does Try.prog f args pre (RetE q V' QS) := by
  constructor
  intro g F w hS cs
  obtain ⟨e, w', fr, ⟨v, ps, ⟨x, hx, rfl, rfl⟩, rfl, h2⟩, h3⟩ := h.run g F w hS cs
  obtain ⟨y, hy, hv, hs⟩ := hw x hx
  exact ⟨_, w', fr, ⟨_, _, ⟨y, hy, hv, rfl⟩, rfl, hs _ _ _ h2⟩, h3⟩

abbrev bufC (x : Int) : List Value := [.int .i64 x, .slice none 0 0]
abbrev claC (x : Option Addr × Nat) : List Value := [.int .i64 1, .slice x.1 1 x.2, fnO]
theorem at_nil_recs {P : Program} {f : FuncId} {g : World} {F : List HP} {R : Ending → World → Prop} {k : List Item} {T : List Value} {L : List HP} {α : Type} (E sz : Nat) (cells : α → List Value) (h : At P f g F R k T (recsO E sz cells none 0 ([] : List α) :: L)) : At P f g F R k T L := at_nil_own E sz h
theorem new_d (b n : Nat) (h1 : 1 ≤ n) (h64 : n ≤ 64) : Does Try.prog 14 [.agg #[.slice (some ⟨b, 0, none⟩) 1 1, .int .i64 (n : Nat)]] [row b 32 [.int .i64 1, .int .i64 1]]
    (RetE (fun p : Nat => True) (fun p => .tuple #[.pointer (some ⟨p, 0, none⟩), .int .i64 0]) (fun p => [PoolP p n fun _ => none])) := by
  have hm := may_d b n h1 h64
  have h0 : Does Try.prog 14 [.agg #[.slice (some ⟨b, 0, none⟩) 1 1, .int .i64 (n : Nat)]] [row b 32 [.int .i64 1, .int .i64 1]]
      (RetE (fun x : Nat × Nat × (Option Addr × Nat) × (Option Addr × Nat) => True) (fun x => .tuple #[.pointer (some ⟨x.1, 0, none⟩), .int .i64 0]) (fun x => [row x.1 94 [.slice x.2.2.1.1 1 x.2.2.1.2, .slice x.2.2.2.1 1 x.2.2.2.2, .slice (some ⟨x.2.1, 0, none⟩) n n], row x.2.1 102 (pcs n fun _ => none)])) := by
    (focus
      refine Xg.spec_of Go.Proofs.Try.func14 rfl Go.Proofs.Try.ntmps14 fun g F => ?_)
    (focus
      refine Xg.at_seq ?_
      refine Xg.at_region ?_
      refine Xg.ops_op (by kernel_rfl) (Xg.opx_box (v := (Value.agg #[Value.slice (some (Addr.mk b (0 : Nat) none)) (1 : Nat) (1 : Nat), iv (↑n : Int)])) [Value.slice (some (Addr.mk b (0 : Nat) none)) (1 : Nat) (1 : Nat), iv (↑n : Int)] (by kernel_rfl) (by kernel_rfl) fun xb1 => ?_)
      refine Xg.ops_op (by kernel_rfl) (Xg.opx_pure ((Value.pointer none)) rfl (fun _ => by kernel_rfl) ?_)
      refine Xg.ops_op (by kernel_rfl) (Xg.opx_pure ((iv 0)) rfl (fun _ => by kernel_rfl) ?_)
      refine Xg.ops_nil ?_
      refine Xg.at_seq ?_
      refine Xg.at_seq ?_
      refine Xg.at_region ?_
      refine Xg.ops_op (by kernel_rfl) (Xg.opx_loadn (off := 0) 2 0 [Value.slice (some (Addr.mk b (0 : Nat) none)) (1 : Nat) (1 : Nat), iv (↑n : Int)] (by kernel_rfl) rfl (by kernel_rfl) rfl (Xg.cells_at (by kernel_rfl)) (by kernel_rfl) ?_)
      refine Xg.ops_op (by kernel_rfl) (Xg.opx_call1' [1] [row b (32 : TypeId) [iv 1, iv 1], row xb1 (35 : Nat) [Value.slice (some (Addr.mk b (0 : Nat) none)) (1 : Nat) (1 : Nat), iv (↑n : Int)]] (fun _ => by kernel_rfl) (@hm ) (by kernel_rfl) (by kernel_rfl) (by kernel_rfl) ?_)
      refine Xg.ops_op (by kernel_rfl) (Xg.opx_pure (.bool false) rfl (fun _ => by kernel_rfl) ?_)
      refine Xg.ops_nil ?_
      refine Xg.at_false (t := false) (by kernel_rfl) rfl ?_
      refine Xg.at_skip ?_
      refine Xg.at_seq ?_
      refine Xg.at_region ?_
      refine Xg.ops_op (by kernel_rfl) (Xg.opx_pure ((pv xb1 1)) rfl (fun _ => by kernel_rfl) ?_)
      refine Xg.ops_op (by kernel_rfl) (Xg.opx_load (b := xb1) (off := ((1 : Nat))) 1 (iv (↑n : Int)) rfl (by kernel_rfl) (by kernel_rfl) (by kernel_rfl) ?_))
    refine Xg.ops_op (by kernel_rfl) (opx_make_row (k1 := .i64) (k2 := .i64) (elem := 102) n 8 (.pointer none) (by kernel_rfl) (El.mk' (by kernel_rfl) rfl) rfl (by kernel_rfl) (by kernel_rfl) (by omega) (by unfold maxLen; omega) fun ab => ?_)
    rw [arr_rep n (.pointer none)]
    (focus
      refine Xg.ops_op (by kernel_rfl) (Xg.opx_pure ((Value.agg #[Value.slice none (0 : Nat) (0 : Nat), Value.slice none (0 : Nat) (0 : Nat), Value.slice (some (Addr.mk ab (0 : Nat) none)) n n])) rfl (fun _ => by kernel_rfl) ?_)
      refine Xg.ops_op (by kernel_rfl) (Xg.opx_box (v := (Value.agg #[Value.slice none (0 : Nat) (0 : Nat), Value.slice none (0 : Nat) (0 : Nat), Value.slice (some (Addr.mk ab (0 : Nat) none)) n n])) [Value.slice none (0 : Nat) (0 : Nat), Value.slice none (0 : Nat) (0 : Nat), Value.slice (some (Addr.mk ab (0 : Nat) none)) n n] (by kernel_rfl) (by kernel_rfl) fun xb2 => ?_)
      refine Xg.ops_op (by kernel_rfl) (Xg.opx_pure ((pv xb2 0)) rfl (fun _ => by kernel_rfl) ?_)
      refine Xg.ops_nil ?_
      refine Xg.at_seq ?_
      refine Xg.at_seq ?_
      refine Xg.at_region ?_
      refine Xg.ops_op (by kernel_rfl) (Xg.opx_pure ((pv xb1 0)) rfl (fun _ => by kernel_rfl) ?_)
      refine Xg.ops_op (by kernel_rfl) (Xg.opx_load (b := xb1) (off := ((0 : Nat))) 3 (Value.slice (some (Addr.mk b (0 : Nat) none)) (1 : Nat) (1 : Nat)) rfl (by kernel_rfl) (by kernel_rfl) (by kernel_rfl) ?_)
      refine Xg.ops_op (by kernel_rfl) (Xg.opx_pure ((iv 1)) rfl (fun _ => by kernel_rfl) ?_)
      refine Xg.ops_op (by kernel_rfl) (Xg.opx_pure ((iv 0)) rfl (fun _ => by kernel_rfl) ?_)
      refine Xg.ops_nil ?_
      refine Xg.at_block ?_
      refine Xg.at_loop ?_
      refine Xg.at_seq ?_
      refine Xg.at_region ?_
      refine Xg.ops_op (by kernel_rfl) (Xg.opx_pure ((Value.bool true)) rfl (fun _ => by kernel_rfl) ?_)
      refine Xg.ops_nil ?_
      refine Xg.at_seq ?_
      refine Xg.at_true (t := true) (by kernel_rfl) rfl ?_
      refine Xg.at_skip ?_
      refine Xg.at_seq ?_
      refine Xg.at_block ?_
      refine Xg.at_seq ?_
      refine Xg.at_region ?_
      refine Xg.ops_op (by kernel_rfl) (Xg.opx_pure ((iv 0)) rfl (fun _ => by kernel_rfl) ?_)
      refine Xg.ops_op (by kernel_rfl) (Xg.opx_pure (pv b 0) rfl (fun _ => by kernel_rfl) ?_)
      refine Xg.ops_op (by kernel_rfl) (Xg.opx_loadn (off := 0) 2 2 [iv 1, iv 1] (by kernel_rfl) rfl (by kernel_rfl) rfl (Xg.cells_at (by kernel_rfl)) (by kernel_rfl) ?_)
      refine Xg.ops_op (by kernel_rfl) (Xg.opx_new 2 [iv 0, iv 0] (by kernel_rfl) (by kernel_rfl) fun xb3 => ?_)
      refine Xg.ops_op (by kernel_rfl) (Xg.opx_pure ((iv 0)) rfl (fun _ => by kernel_rfl) ?_)
      refine Xg.ops_op (by kernel_rfl) (Xg.opx_storen 2 (off := 0) 0 [iv 1, iv 1] (by kernel_rfl) rfl (by kernel_rfl) (by kernel_rfl) rfl (by kernel_rfl) (Nat.le_of_ble_eq_true (by kernel_rfl)) ?_)
      refine Xg.ops_nil ?_
      refine Xg.at_seq ?_
      refine Xg.at_region ?_
      refine Xg.ops_op (by kernel_rfl) (Xg.opx_pure ((pv xb3 0)) rfl (fun _ => by kernel_rfl) ?_)
      refine Xg.ops_op (by kernel_rfl) (Xg.opx_load (b := xb3) (off := ((0 : Nat))) 0 (iv 1) rfl (by kernel_rfl) (by kernel_rfl) (by kernel_rfl) ?_)
      refine Xg.ops_op (by kernel_rfl) (Xg.opx_pure ((Value.agg #[Value.slice none (0 : Nat) (0 : Nat), Value.func (Fn.func (34 : Nat)) #[] #[]])) rfl (fun _ => by kernel_rfl) ?_)
      refine Xg.ops_op (by kernel_rfl) (Xg.opx_pure ((Value.agg #[iv 1, Value.slice none (0 : Nat) (0 : Nat), Value.func (Fn.func (34 : Nat)) #[] #[]])) rfl (fun _ => by kernel_rfl) ?_)
      refine Xg.ops_op (by kernel_rfl) (Xg.opx_new 3 [iv 0, Value.slice none (0 : Nat) (0 : Nat), Value.nilFunc] (by kernel_rfl) (by kernel_rfl) fun xb4 => ?_)
      refine Xg.ops_op (by kernel_rfl) (Xg.opx_storen 3 (off := 0) 0 [iv 1, Value.slice none (0 : Nat) (0 : Nat), Value.func (Fn.func (34 : Nat)) #[] #[]] (by kernel_rfl) rfl (by kernel_rfl) (by kernel_rfl) rfl (by kernel_rfl) (Nat.le_of_ble_eq_true (by kernel_rfl)) ?_)
      refine Xg.ops_nil ?_
      refine Xg.at_seq ?_
      refine Xg.at_seq ?_
      refine Xg.at_region ?_
      refine Xg.ops_op (by kernel_rfl) (Xg.opx_pure ((pv xb3 1)) rfl (fun _ => by kernel_rfl) ?_)
      refine Xg.ops_op (by kernel_rfl) (Xg.opx_load (b := xb3) (off := ((1 : Nat))) 1 (iv 1) rfl (by kernel_rfl) (by kernel_rfl) (by kernel_rfl) ?_)
      refine Xg.ops_op (by kernel_rfl) (Xg.opx_pure ((iv 0)) rfl (fun _ => by kernel_rfl) ?_)
      refine Xg.ops_nil ?_
      refine Xg.at_block ?_
      refine Xg.at_loop ?_
      refine Xg.at_seq ?_
      refine Xg.at_region ?_
      refine Xg.ops_op (by kernel_rfl) (Xg.opx_pure ((Value.bool true)) rfl (fun _ => by kernel_rfl) ?_)
      refine Xg.ops_nil ?_
      refine Xg.at_seq ?_
      refine Xg.at_true (t := true) (by kernel_rfl) rfl ?_
      refine Xg.at_skip ?_
      refine Xg.at_seq ?_
      refine Xg.at_block ?_
      refine Xg.at_seq ?_
      refine Xg.at_region ?_
      refine Xg.ops_op (by kernel_rfl) (Xg.opx_pure ((pv xb4 1)) rfl (fun _ => by kernel_rfl) ?_)
      refine Xg.ops_op (by kernel_rfl) (Xg.opx_pure ((pv xb2 0)) rfl (fun _ => by kernel_rfl) ?_)
      refine Xg.ops_op (by kernel_rfl) (Xg.opx_pure ((pv xb2 0)) rfl (fun _ => by kernel_rfl) ?_)
      refine Xg.ops_op (by kernel_rfl) (Xg.opx_pure ((pv xb2 1)) rfl (fun _ => by kernel_rfl) ?_)
      refine Xg.ops_op (by kernel_rfl) (Xg.opx_load (b := xb2) (off := ((1 : Nat))) 2 (Value.slice none (0 : Nat) (0 : Nat)) rfl (by kernel_rfl) (by kernel_rfl) (by kernel_rfl) ?_)
      refine Xg.ops_op (by kernel_rfl) (Xg.opx_pure ((iv 0)) rfl (fun _ => by kernel_rfl) ?_)
      refine Xg.ops_op (by kernel_rfl) (Xg.opx_callE' [0] (fun xx1 => [row xb4 (98 : TypeId) [iv 1, Value.slice xx1.fst (1 : Nat) xx1.snd, Value.func (Fn.func (34 : Nat)) #[] #[]], ints (3 : TypeId) IntKind.i64 xx1.fst xx1.snd [(0 : Int)], row xb3 (32 : Nat) [iv 1, iv 1], row xb2 (94 : Nat) [Value.slice none (0 : Nat) (0 : Nat), Value.slice none (0 : Nat) (0 : Nat), Value.slice (some (Addr.mk ab (0 : Nat) none)) n n], row ab (102 : TypeId) (arr n fun (x : Nat) => Value.pointer none), row b (32 : TypeId) [iv 1, iv 1], row xb1 (35 : Nat) [Value.slice (some (Addr.mk b (0 : Nat) none)) (1 : Nat) (1 : Nat), iv (↑n : Int)]]) (fun _ => by kernel_rfl) (@Go.Proofs.Ytmplimmcjdkhlaa.put_d (xb4) (((1 : Int)))) (by kernel_rfl) (by kernel_rfl) (by kernel_rfl) fun xx1 xh1 => ?_)
      try dsimp only at xh1
      refine Xg.ops_nil ?_)
    refine at_nil_recs 101 2 bufC ?_
    (focus
      refine Xg.at_region ?_
      refine Xg.ops_op (by kernel_rfl) (Xg.opx_pure ((pv xb2 0)) rfl (fun _ => by kernel_rfl) ?_)
      refine Xg.ops_op (by kernel_rfl) (Xg.opx_pure ((pv xb2 0)) rfl (fun _ => by kernel_rfl) ?_)
      refine Xg.ops_op (by kernel_rfl) (Xg.opx_pure ((pv xb2 0)) rfl (fun _ => by kernel_rfl) ?_)
      refine Xg.ops_op (by kernel_rfl) (Xg.opx_pure ((pv xb2 1)) rfl (fun _ => by kernel_rfl) ?_)
      refine Xg.ops_op (by kernel_rfl) (Xg.opx_load (b := xb2) (off := ((1 : Nat))) 4 (Value.slice none (0 : Nat) (0 : Nat)) rfl (by kernel_rfl) (by kernel_rfl) (by kernel_rfl) ?_)
      refine Xg.ops_op (by kernel_rfl) (Xg.opx_pure ((iv 0)) rfl (fun _ => by kernel_rfl) ?_)
      refine Xg.ops_op (by kernel_rfl) (Xg.opx_pure ((Value.agg #[iv 0, Value.slice none (0 : Nat) (0 : Nat)])) rfl (fun _ => by kernel_rfl) ?_)
      refine Xg.ops_op (by kernel_rfl) (Xg.opx_bs (elem := 101) 2 [Value.agg #[iv 0, Value.slice none (0 : Nat) (0 : Nat)]] [iv 0, Value.slice none (0 : Nat) (0 : Nat)] (by kernel_rfl) (by kernel_rfl) (by decide) rfl (by kernel_rfl) (by kernel_rfl) (by kernel_rfl) (by kernel_rfl) fun xb5 => ?_)
      refine Xg.ops_op (by kernel_rfl) (Xg.opx_append_recs (elem := 101) (yv := (Value.slice (some (Addr.mk xb5 (0 : Nat) none)) (1 : Nat) (1 : Nat))) (l := []) 1 2 64 ((0 : Int)) rfl (by kernel_rfl) (by kernel_rfl) (by kernel_rfl) (by kernel_rfl) (fun _ hS => Xg.row_rd hS 0 rfl (by kernel_rfl)) (by kernel_rfl) (by first | omega | (simp only [List.length_nil]; omega) | (simp; omega)) (by first | omega | (simp only [List.length_nil]; omega) | (simp; omega)) fun xa1 xc1 => ?_)
      have xl1 : (([] : (List Int)) ++ [((0 : Int))]).length = ([] : (List Int)).length + 1 := by simp
      refine Xg.ops_op (by kernel_rfl) (Xg.opx_pure ((pv xb2 0)) rfl (fun _ => by kernel_rfl) ?_)
      refine Xg.ops_op (by kernel_rfl) (Xg.opx_pure ((pv xb2 1)) rfl (fun _ => by kernel_rfl) ?_)
      refine Xg.ops_op (by kernel_rfl) (Xg.opx_store1 (off := 1) 5 (Value.slice xa1 (1 : Nat) xc1) (by kernel_rfl) rfl (by kernel_rfl) (by kernel_rfl) (by kernel_rfl) (Nat.le_of_ble_eq_true (by kernel_rfl)) ?_)
      refine Xg.ops_nil ?_
      refine Xg.at_inBlock ?_
      refine Xg.at_region ?_
      refine Xg.ops_op (by kernel_rfl) (Xg.opx_pure ((iv 1)) rfl (fun _ => by kernel_rfl) ?_)
      refine Xg.ops_op (by kernel_rfl) (Xg.opx_pure ((iv 1)) rfl (fun _ => by kernel_rfl) ?_)
      refine Xg.ops_nil ?_
      refine Xg.at_inLoop ?_
      refine Xg.at_seq ?_
      refine Xg.at_region ?_
      refine Xg.ops_op (by kernel_rfl) (Xg.opx_pure ((Value.bool false)) rfl (fun _ => by kernel_rfl) ?_)
      refine Xg.ops_nil ?_
      refine Xg.at_seq ?_
      refine Xg.at_false (t := false) (by kernel_rfl) rfl ?_
      refine Xg.at_exit rfl ?_)
    refine at_nil_recs 98 3 claC ?_
    (focus
      refine Xg.at_draw [5, 6, 7, 10] [(4, [0, 1, 2, 3, 4, 5, 6], Xg.CellIs (xb2) (((0 : Nat))) ((Value.slice none (0 : Nat) (0 : Nat))))] (by kernel_rfl) ?_
      refine Xg.any_pure ((pv xb2 0)) 0 (by kernel_rfl) rfl (by kernel_rfl) (by kernel_rfl) (by kernel_rfl) (by kernel_rfl) rfl (fun _ => by kernel_rfl) ?_
      refine Xg.any_pure ((pv xb2 0)) 1 (by kernel_rfl) rfl (by kernel_rfl) (by kernel_rfl) (by kernel_rfl) (by kernel_rfl) rfl (fun _ => by kernel_rfl) ?_
      refine Xg.any_pure ((pv xb2 0)) 2 (by kernel_rfl) rfl (by kernel_rfl) (by kernel_rfl) (by kernel_rfl) (by kernel_rfl) rfl (fun _ => by kernel_rfl) ?_
      refine Xg.any_pure ((pv xb2 0)) 3 (by kernel_rfl) rfl (by kernel_rfl) (by kernel_rfl) (by kernel_rfl) (by kernel_rfl) rfl (fun _ => by kernel_rfl) ?_
      refine Xg.any_reads (Value.slice none (0 : Nat) (0 : Nat)) 4 0 (by kernel_rfl) rfl (by kernel_rfl) (by kernel_rfl) (by kernel_rfl) (by kernel_rfl) rfl rfl (by kernel_rfl) (Xg.cell_now (b := xb2) (off := ((0 : Nat))) 6 rfl (by kernel_rfl)) (fun _ h => Xg.run_load (by kernel_rfl) (by kernel_rfl) h) ?_
      refine Xg.any_each [5] (by kernel_rfl) rfl ⟨?_, trivial⟩
      refine Xg.comes_act rfl (by kernel_rfl) (by kernel_rfl) (Xg.opx_loadn (off := 0) 3 3 [iv 1, Value.slice xx1.fst (1 : Nat) xx1.snd, Value.func (Fn.func (34 : Nat)) #[] #[]] (by kernel_rfl) rfl (by kernel_rfl) rfl (Xg.cells_at (by kernel_rfl)) (by kernel_rfl) ?_)
      refine Xg.acts (Xg.owes_cell 6 rfl (by kernel_rfl) Xg.owes_nil) ?_
      refine Xg.any_each [6] (by kernel_rfl) rfl ⟨?_, trivial⟩
      refine Xg.comes_act rfl (by kernel_rfl) (by kernel_rfl) (Xg.opx_bs (elem := 98) 3 [Value.agg #[iv 1, Value.slice xx1.fst (1 : Nat) xx1.snd, Value.func (Fn.func (34 : Nat)) #[] #[]]] [iv 1, Value.slice xx1.fst (1 : Nat) xx1.snd, Value.func (Fn.func (34 : Nat)) #[] #[]] (by kernel_rfl) (by kernel_rfl) (by decide) rfl (by kernel_rfl) (by kernel_rfl) (by kernel_rfl) (by kernel_rfl) fun xb6 => ?_)
      refine Xg.acts (Xg.owes_cell 7 rfl (by kernel_rfl) Xg.owes_nil) ?_
      refine Xg.any_each [7] (by kernel_rfl) rfl ⟨?_, trivial⟩
      refine Xg.comes_act rfl (by kernel_rfl) (by kernel_rfl) (Xg.opx_append_recs (elem := 98) (yv := (Value.slice (some (Addr.mk xb6 (0 : Nat) none)) (1 : Nat) (1 : Nat))) (l := []) 1 3 96 ((xx1.fst, xx1.snd)) rfl (by kernel_rfl) (by kernel_rfl) (by kernel_rfl) (by kernel_rfl) (fun _ hS => Xg.row_rd hS 0 rfl (by kernel_rfl)) (by kernel_rfl) (by first | omega | (simp only [List.length_nil]; omega) | (simp; omega)) (by first | omega | (simp only [List.length_nil]; omega) | (simp; omega)) fun xa2 xc2 => ?_)
      have xl2 : (([] : (List (Option Addr × Nat))) ++ [((xx1.fst, xx1.snd))]).length = ([] : (List (Option Addr × Nat))).length + 1 := by simp
      refine Xg.acts (Xg.owes_skip (by kernel_rfl) Xg.owes_nil) ?_
      refine Xg.any_pure ((pv xb2 0)) 8 (by kernel_rfl) rfl (by kernel_rfl) (by kernel_rfl) (by kernel_rfl) (by kernel_rfl) rfl (fun _ => by kernel_rfl) ?_
      refine Xg.any_pure ((pv xb2 0)) 9 (by kernel_rfl) rfl (by kernel_rfl) (by kernel_rfl) (by kernel_rfl) (by kernel_rfl) rfl (fun _ => by kernel_rfl) ?_
      refine Xg.any_each [10] (by kernel_rfl) rfl ⟨?_, trivial⟩
      refine Xg.comes_act rfl (by kernel_rfl) (by kernel_rfl) (Xg.opx_store1 (off := 0) 7 (Value.slice xa2 (1 : Nat) xc2) (by kernel_rfl) rfl (by kernel_rfl) (by kernel_rfl) (by kernel_rfl) (Nat.le_of_ble_eq_true (by kernel_rfl)) ?_)
      refine Xg.acts (Xg.owes_skip (by kernel_rfl) Xg.owes_nil) ?_
      refine Xg.any_nil (by kernel_rfl) ?_
      refine Xg.at_inBlock ?_
      refine Xg.at_region ?_
      refine Xg.ops_op (by kernel_rfl) (Xg.opx_pure ((iv 1)) rfl (fun _ => by kernel_rfl) ?_)
      refine Xg.ops_op (by kernel_rfl) (Xg.opx_pure ((iv 1)) rfl (fun _ => by kernel_rfl) ?_)
      refine Xg.ops_nil ?_
      refine Xg.at_inLoop ?_
      refine Xg.at_seq ?_
      refine Xg.at_region ?_
      refine Xg.ops_op (by kernel_rfl) (Xg.opx_pure ((Value.bool false)) rfl (fun _ => by kernel_rfl) ?_)
      refine Xg.ops_nil ?_
      refine Xg.at_seq ?_
      refine Xg.at_false (t := false) (by kernel_rfl) rfl ?_
      refine Xg.at_exit rfl ?_
      refine Xg.at_seq ?_
      refine Xg.at_region ?_
      refine Xg.ops_op (by kernel_rfl) (Xg.opx_pure ((pv xb2 0)) rfl (fun _ => by kernel_rfl) ?_)
      refine Xg.ops_op (by kernel_rfl) (Xg.opx_pure ((pv xb2 0)) rfl (fun _ => by kernel_rfl) ?_)
      refine Xg.ops_op (by kernel_rfl) (Xg.opx_pure ((iv 0)) rfl (fun _ => by kernel_rfl) ?_)
      refine Xg.ops_nil ?_
      refine Xg.at_ret_ps (v := (Value.tuple #[pv xb2 0, iv 0])) [7, 8] [row xb2 (94 : Nat) [Value.slice xa2 (1 : Nat) xc2, Value.slice xa1 (1 : Nat) xc1, Value.slice (some (Addr.mk ab (0 : Nat) none)) n n], row ab (102 : TypeId) (arr n fun (x : Nat) => Value.pointer none)] Go.Proofs.Try.func14 (fun _ => by kernel_rfl) (by kernel_rfl) (by kernel_rfl) ?_
      refine ⟨((xb2, ab, (xa2, xc2), xa1, xc1)), trivial, by kernel_rfl, by kernel_rfl⟩)
  refine does_weak h0 fun x _ => ⟨x.1, trivial, rfl, fun g w L hS => ?_⟩
  have h2 : SL g (AllP [] :: _) w := (SL.flat (K := [])).2 hS
  refine pool_shut (p := x.1) (n := n) (f := fun _ => none) (ab := x.2.1) (cv := .slice x.2.2.1.1 1 x.2.2.1.2) (bv := .slice x.2.2.2.1 1 x.2.2.2.2) ?_
  rw [fm_none]
  refine h2.perm ?_
  exact (List.Perm.swap _ _ _).trans (.cons _ (.swap _ _ _))

/-- slices.Index of nil. -/
theorem index_nil (ab n : Nat) (f : Nat → Option Nat) (i : Nat) (hn : n ≤ 64) (hi : i < n) (hno : f i = none) (hb : ∀ j, j < i → ∃ b, f j = some b) : Does Try.prog 38 [.slice (some ⟨ab, 0, none⟩) n n, .pointer none] [row ab 102 (pcs n f)]
    (Ret (.int .i64 (i : Nat)) [row ab 102 (pcs n f)]) := by
  (focus
    refine Xg.spec_of Go.Proofs.Try.func38 rfl Go.Proofs.Try.ntmps38 fun g F => ?_)
  (focus
    refine Xg.at_seq ?_
    refine Xg.at_region ?_
    refine Xg.ops_op (by kernel_rfl) (Xg.opx_pure ((iv 0)) rfl (fun _ => by kernel_rfl) ?_)
    refine Xg.ops_nil ?_
    refine Xg.at_seq ?_
    refine Xg.at_seq ?_
    refine Xg.at_region ?_
    refine Xg.ops_op (by kernel_rfl) (Xg.opx_pure ((Value.slice (some (Addr.mk ab (0 : Nat) none)) n n)) rfl (fun _ => by kernel_rfl) ?_)
    refine Xg.ops_op (by kernel_rfl) (Xg.opx_pure ((iv (↑n : Int))) rfl (fun _ => by kernel_rfl) ?_)
    refine Xg.ops_op (by kernel_rfl) (Xg.opx_pure ((iv 0)) rfl (fun _ => by kernel_rfl) ?_)
    refine Xg.ops_nil ?_
    refine Xg.at_block ?_)
  (focus
    refine Xg.at_rounds_inv (α := (Nat) × (Nat → Value)) (fun x => ((fun k => k ≤ i) : (Nat) → Prop) x.1) (fun x => ((fun k => i - k) : (Nat) → Nat) x.1) (fun x => Xg.headT [Value.slice (some (Addr.mk ab (0 : Nat) none)) n n, Value.pointer none, tu, tu, iv 0, tu, Value.slice (some (Addr.mk ab (0 : Nat) none)) n n, iv (↑n : Int), iv 0, tu, tu, tu, tu, tu, tu, tu, tu, tu, tu] [4, 5, 9, 10, 11, 12, 13, 14, 15, 16, 17, 18] (((fun k => [(8, .int .i64 (k : Nat))]) : (Nat) → List (Nat × Go.Value)) x.1) x.2) (fun x => ((fun k => [row ab 102 (pcs n f)]) : (Nat) → List Go.Sl.HP) x.1) ((0), fun j9 => ([Value.slice (some (Addr.mk ab (0 : Nat) none)) n n, Value.pointer none, tu, tu, iv 0, tu, Value.slice (some (Addr.mk ab (0 : Nat) none)) n n, iv (↑n : Int), iv 0, tu, tu, tu, tu, tu, tu, tu, tu, tu, tu] : List Value).getD j9 undef) (by kernel_rfl) (by kernel_rfl) ?_ ?_)
  · exact Nat.zero_le _
  rintro ⟨k, J⟩ hk ih
  dsimp only at hk
  (focus
    refine Xg.At.same (T' := [Value.slice (some (Addr.mk ab (0 : Nat) none)) n n, Value.pointer none, tu, tu, J 4, J 5, Value.slice (some (Addr.mk ab (0 : Nat) none)) n n, iv (↑n : Int), iv (↑k : Int), J 9, J 10, J 11, J 12, J 13, J 14, J 15, J 16, J 17, J 18]) (L' := [row ab (102 : TypeId) (pcs n f)]) (by kernel_rfl) rfl ?_)
  by_cases hlt : k < i
  · obtain ⟨b, hfb⟩ := hb k hlt
    have hg := g_some n f k b (by omega) hfb
    (focus
      refine Xg.at_seq ?_
      refine Xg.at_region ?_
      refine Xg.ops_op (by kernel_rfl) (Xg.opx_pure (.bool (decide ((((↑k : Int)) : Int) < ((↑n : Int))))) rfl (fun _ => by kernel_rfl) ?_)
      refine Xg.ops_nil ?_
      refine Xg.at_seq ?_
      refine Xg.at_true (t := decide (((↑k : Int) < (↑n : Int)))) (by kernel_rfl) (decide_eq_true (by omega)) ?_
      refine Xg.at_skip ?_
      refine Xg.at_seq ?_
      refine Xg.at_block ?_
      refine Xg.at_seq ?_
      refine Xg.at_region ?_
      refine Xg.ops_op (by kernel_rfl) (Xg.opx_pure ((iv (↑k : Int))) rfl (fun _ => by kernel_rfl) ?_)
      refine Xg.ops_op (by kernel_rfl) (Xg.opx_pure ((iv (↑k : Int))) rfl (fun _ => by kernel_rfl) ?_)
      refine Xg.ops_nil ?_
      refine Xg.at_seq ?_
      refine Xg.at_region ?_
      refine Xg.ops_op (by kernel_rfl) (Xg.opx_pure ((Value.pointer none)) rfl (fun _ => by kernel_rfl) ?_)
      refine Xg.ops_op (by kernel_rfl) (Xg.opx_pure ((Value.slice (some (Addr.mk ab (0 : Nat) none)) n n)) rfl (fun _ => by kernel_rfl) ?_)
      refine Xg.ops_op (by kernel_rfl) (Xg.opx_pure ((iv (↑k : Int))) rfl (fun _ => by kernel_rfl) ?_)
      refine Xg.ops_op (by kernel_rfl) (Xg.opx_run (.pointer (some (Addr.mk ab k none))) rfl (Xg.run_ix_slice' (elem := 102) (b := ab) (off := ((0 : Nat))) (len := n) (cap := n) (kd := .i64) (e := ((↑k : Int))) 1 k k (by kernel_rfl) (by kernel_rfl) (by kernel_rfl) (by kernel_rfl) rfl (by omega) (by omega)) ?_)
      refine Xg.ops_op (by kernel_rfl) (Xg.opx_load (b := ab) (off := k) 0 (pv b 0) rfl (by kernel_rfl) (@hg ) (by kernel_rfl) ?_)
      refine Xg.ops_op (by kernel_rfl) (Xg.opx_pure ((Value.bool (some (Addr.mk b (0 : Nat) none)).isNone)) rfl (fun _ => by kernel_rfl) ?_)
      refine Xg.ops_nil ?_
      refine Xg.at_false (t := false) (by kernel_rfl) rfl ?_
      refine Xg.at_skip ?_
      refine Xg.at_inBlock ?_
      refine Xg.at_region ?_
      refine Xg.ops_op (by kernel_rfl) (Xg.opx_int .i64 (IntKind.wrap .i64 (((↑k : Int) + (1 : Int)))) rfl (fun _ => by kernel_rfl) (Xg.wrap_i64_in (by omega)) ?_)
      refine Xg.ops_op (by kernel_rfl) (Xg.opx_pure ((iv ((↑k : Int) + (1 : Int)))) rfl (fun _ => by kernel_rfl) ?_)
      refine Xg.ops_nil ?_
      refine Xg.at_inLoop ?_)
    (focus
      refine Xg.at_keep [0] (by kernel_rfl) ?_
      refine Xs.same ?_ (fun J9 => ih (((k + 1)), J9) ?_ ?_) (by kernel_rfl))
    · rfl
    · dsimp only; omega
    · dsimp only; omega
  · obtain rfl : k = i := by omega
    clear ih
    have hg := g_none n f k (by omega) hno
    (focus
      refine Xg.at_seq ?_
      refine Xg.at_region ?_
      refine Xg.ops_op (by kernel_rfl) (Xg.opx_pure (.bool (decide ((((↑k : Int)) : Int) < ((↑n : Int))))) rfl (fun _ => by kernel_rfl) ?_)
      refine Xg.ops_nil ?_
      refine Xg.at_seq ?_
      refine Xg.at_true (t := decide (((↑k : Int) < (↑n : Int)))) (by kernel_rfl) (decide_eq_true (by omega)) ?_
      refine Xg.at_skip ?_
      refine Xg.at_seq ?_
      refine Xg.at_block ?_
      refine Xg.at_seq ?_
      refine Xg.at_region ?_
      refine Xg.ops_op (by kernel_rfl) (Xg.opx_pure ((iv (↑k : Int))) rfl (fun _ => by kernel_rfl) ?_)
      refine Xg.ops_op (by kernel_rfl) (Xg.opx_pure ((iv (↑k : Int))) rfl (fun _ => by kernel_rfl) ?_)
      refine Xg.ops_nil ?_
      refine Xg.at_seq ?_
      refine Xg.at_region ?_
      refine Xg.ops_op (by kernel_rfl) (Xg.opx_pure ((Value.pointer none)) rfl (fun _ => by kernel_rfl) ?_)
      refine Xg.ops_op (by kernel_rfl) (Xg.opx_pure ((Value.slice (some (Addr.mk ab (0 : Nat) none)) n n)) rfl (fun _ => by kernel_rfl) ?_)
      refine Xg.ops_op (by kernel_rfl) (Xg.opx_pure ((iv (↑k : Int))) rfl (fun _ => by kernel_rfl) ?_)
      refine Xg.ops_op (by kernel_rfl) (Xg.opx_run (.pointer (some (Addr.mk ab k none))) rfl (Xg.run_ix_slice' (elem := 102) (b := ab) (off := ((0 : Nat))) (len := n) (cap := n) (kd := .i64) (e := ((↑k : Int))) 1 k k (by kernel_rfl) (by kernel_rfl) (by kernel_rfl) (by kernel_rfl) rfl (by omega) (by omega)) ?_)
      refine Xg.ops_op (by kernel_rfl) (Xg.opx_load (b := ab) (off := k) 0 (Value.pointer none) rfl (by kernel_rfl) (@hg ) (by kernel_rfl) ?_)
      refine Xg.ops_op (by kernel_rfl) (Xg.opx_pure ((Value.bool true)) rfl (fun _ => by kernel_rfl) ?_)
      refine Xg.ops_nil ?_
      refine Xg.at_true (t := true) (by kernel_rfl) rfl ?_
      refine Xg.at_seq ?_
      refine Xg.at_region ?_
      refine Xg.ops_op (by kernel_rfl) (Xg.opx_pure ((iv (↑k : Int))) rfl (fun _ => by kernel_rfl) ?_)
      refine Xg.ops_op (by kernel_rfl) (Xg.opx_pure ((iv (↑k : Int))) rfl (fun _ => by kernel_rfl) ?_)
      refine Xg.ops_nil ?_
      refine Xg.at_ret_ps (v := (iv (↑k : Int))) [0] [row ab (102 : TypeId) (pcs n f)] Go.Proofs.Try.func38 (fun _ => by kernel_rfl) (by kernel_rfl) (by kernel_rfl) ?_
      exact ⟨by kernel_rfl, by kernel_rfl⟩)
theorem index_none (ab n : Nat) (f : Nat → Option Nat) (hn : n ≤ 64) (hb : ∀ j, j < n → ∃ b, f j = some b) : Does Try.prog 38 [.slice (some ⟨ab, 0, none⟩) n n, .pointer none] [row ab 102 (pcs n f)]
    (Ret (.int .i64 (-1)) [row ab 102 (pcs n f)]) := by
  (focus
    refine Xg.spec_of Go.Proofs.Try.func38 rfl Go.Proofs.Try.ntmps38 fun g F => ?_)
  (focus
    refine Xg.at_seq ?_
    refine Xg.at_region ?_
    refine Xg.ops_op (by kernel_rfl) (Xg.opx_pure ((iv 0)) rfl (fun _ => by kernel_rfl) ?_)
    refine Xg.ops_nil ?_
    refine Xg.at_seq ?_
    refine Xg.at_seq ?_
    refine Xg.at_region ?_
    refine Xg.ops_op (by kernel_rfl) (Xg.opx_pure ((Value.slice (some (Addr.mk ab (0 : Nat) none)) n n)) rfl (fun _ => by kernel_rfl) ?_)
    refine Xg.ops_op (by kernel_rfl) (Xg.opx_pure ((iv (↑n : Int))) rfl (fun _ => by kernel_rfl) ?_)
    refine Xg.ops_op (by kernel_rfl) (Xg.opx_pure ((iv 0)) rfl (fun _ => by kernel_rfl) ?_)
    refine Xg.ops_nil ?_
    refine Xg.at_block ?_)
  (focus
    refine Xg.at_rounds_inv (α := (Nat) × (Nat → Value)) (fun x => ((fun k => k ≤ n) : (Nat) → Prop) x.1) (fun x => ((fun k => n - k) : (Nat) → Nat) x.1) (fun x => Xg.headT [Value.slice (some (Addr.mk ab (0 : Nat) none)) n n, Value.pointer none, tu, tu, iv 0, tu, Value.slice (some (Addr.mk ab (0 : Nat) none)) n n, iv (↑n : Int), iv 0, tu, tu, tu, tu, tu, tu, tu, tu, tu, tu] [4, 5, 9, 10, 11, 12, 13, 14, 15, 16, 17, 18] (((fun k => [(8, .int .i64 (k : Nat))]) : (Nat) → List (Nat × Go.Value)) x.1) x.2) (fun x => ((fun k => [row ab 102 (pcs n f)]) : (Nat) → List Go.Sl.HP) x.1) ((0), fun j9 => ([Value.slice (some (Addr.mk ab (0 : Nat) none)) n n, Value.pointer none, tu, tu, iv 0, tu, Value.slice (some (Addr.mk ab (0 : Nat) none)) n n, iv (↑n : Int), iv 0, tu, tu, tu, tu, tu, tu, tu, tu, tu, tu] : List Value).getD j9 undef) (by kernel_rfl) (by kernel_rfl) ?_ ?_)
  · exact Nat.zero_le _
  rintro ⟨k, J⟩ hk ih
  dsimp only at hk
  (focus
    refine Xg.At.same (T' := [Value.slice (some (Addr.mk ab (0 : Nat) none)) n n, Value.pointer none, tu, tu, J 4, J 5, Value.slice (some (Addr.mk ab (0 : Nat) none)) n n, iv (↑n : Int), iv (↑k : Int), J 9, J 10, J 11, J 12, J 13, J 14, J 15, J 16, J 17, J 18]) (L' := [row ab (102 : TypeId) (pcs n f)]) (by kernel_rfl) rfl ?_)
  by_cases hlt : k < n
  · obtain ⟨b, hfb⟩ := hb k hlt
    have hg := g_some n f k b (by omega) hfb
    (focus
      refine Xg.at_seq ?_
      refine Xg.at_region ?_
      refine Xg.ops_op (by kernel_rfl) (Xg.opx_pure (.bool (decide ((((↑k : Int)) : Int) < ((↑n : Int))))) rfl (fun _ => by kernel_rfl) ?_)
      refine Xg.ops_nil ?_
      refine Xg.at_seq ?_
      refine Xg.at_true (t := decide (((↑k : Int) < (↑n : Int)))) (by kernel_rfl) (decide_eq_true (by omega)) ?_
      refine Xg.at_skip ?_
      refine Xg.at_seq ?_
      refine Xg.at_block ?_
      refine Xg.at_seq ?_
      refine Xg.at_region ?_
      refine Xg.ops_op (by kernel_rfl) (Xg.opx_pure ((iv (↑k : Int))) rfl (fun _ => by kernel_rfl) ?_)
      refine Xg.ops_op (by kernel_rfl) (Xg.opx_pure ((iv (↑k : Int))) rfl (fun _ => by kernel_rfl) ?_)
      refine Xg.ops_nil ?_
      refine Xg.at_seq ?_
      refine Xg.at_region ?_
      refine Xg.ops_op (by kernel_rfl) (Xg.opx_pure ((Value.pointer none)) rfl (fun _ => by kernel_rfl) ?_)
      refine Xg.ops_op (by kernel_rfl) (Xg.opx_pure ((Value.slice (some (Addr.mk ab (0 : Nat) none)) n n)) rfl (fun _ => by kernel_rfl) ?_)
      refine Xg.ops_op (by kernel_rfl) (Xg.opx_pure ((iv (↑k : Int))) rfl (fun _ => by kernel_rfl) ?_)
      refine Xg.ops_op (by kernel_rfl) (Xg.opx_run (.pointer (some (Addr.mk ab k none))) rfl (Xg.run_ix_slice' (elem := 102) (b := ab) (off := ((0 : Nat))) (len := n) (cap := n) (kd := .i64) (e := ((↑k : Int))) 1 k k (by kernel_rfl) (by kernel_rfl) (by kernel_rfl) (by kernel_rfl) rfl (by omega) (by omega)) ?_)
      refine Xg.ops_op (by kernel_rfl) (Xg.opx_load (b := ab) (off := k) 0 (pv b 0) rfl (by kernel_rfl) (@hg ) (by kernel_rfl) ?_)
      refine Xg.ops_op (by kernel_rfl) (Xg.opx_pure ((Value.bool (some (Addr.mk b (0 : Nat) none)).isNone)) rfl (fun _ => by kernel_rfl) ?_)
      refine Xg.ops_nil ?_
      refine Xg.at_false (t := false) (by kernel_rfl) rfl ?_
      refine Xg.at_skip ?_
      refine Xg.at_inBlock ?_
      refine Xg.at_region ?_
      refine Xg.ops_op (by kernel_rfl) (Xg.opx_int .i64 (IntKind.wrap .i64 (((↑k : Int) + (1 : Int)))) rfl (fun _ => by kernel_rfl) (Xg.wrap_i64_in (by omega)) ?_)
      refine Xg.ops_op (by kernel_rfl) (Xg.opx_pure ((iv ((↑k : Int) + (1 : Int)))) rfl (fun _ => by kernel_rfl) ?_)
      refine Xg.ops_nil ?_
      refine Xg.at_inLoop ?_)
    (focus
      refine Xg.at_keep [0] (by kernel_rfl) ?_
      refine Xs.same ?_ (fun J9 => ih (((k + 1)), J9) ?_ ?_) (by kernel_rfl))
    · rfl
    · dsimp only; omega
    · dsimp only; omega
  · clear ih
    (focus
      refine Xg.at_seq ?_
      refine Xg.at_region ?_
      refine Xg.ops_op (by kernel_rfl) (Xg.opx_pure (.bool (decide ((((↑k : Int)) : Int) < ((↑n : Int))))) rfl (fun _ => by kernel_rfl) ?_)
      refine Xg.ops_nil ?_
      refine Xg.at_seq ?_
      refine Xg.at_false (t := decide (((↑k : Int) < (↑n : Int)))) (by kernel_rfl) (decide_eq_false (by omega)) ?_
      refine Xg.at_exit rfl ?_
      refine Xg.at_seq ?_
      refine Xg.at_region ?_
      refine Xg.ops_op (by kernel_rfl) (Xg.opx_pure ((iv (-1))) rfl (fun _ => by kernel_rfl) ?_)
      refine Xg.ops_nil ?_
      refine Xg.at_ret_ps (v := (iv (-1))) [0] [row ab (102 : TypeId) (pcs n f)] Go.Proofs.Try.func38 (fun _ => by kernel_rfl) (by kernel_rfl) (by kernel_rfl) ?_
      exact ⟨by kernel_rfl, by kernel_rfl⟩)

/-- What is done with a Pool by its rows. -/
abbrev HdP (p ab n : Nat) (cv bv : Value) : HP := row p 94 [cv, bv, .slice (some ⟨ab, 0, none⟩) n n]
abbrev PtP (ab n : Nat) (f : Nat → Option Nat) : HP := row ab 102 (pcs n f)
theorem closed0 {f : FuncId} {args : List Value} {V : Value} {p n : Nat} {u : Nat → Option Nat} (h : ∀ ab cv bv, Does Try.prog f args [HdP p ab n cv bv, PtP ab n u] (Ret V [HdP p ab n cv bv, PtP ab n u])) : Does Try.prog f args [PoolP p n u] (Ret V [PoolP p n u]) := by
  constructor
  intro g F w hS
  obtain ⟨ab, cv, bv, hS⟩ := pool_open hS
  intro cs
  obtain ⟨e, w', fr, ⟨v, ps, ⟨rfl, rfl⟩, rfl, h2⟩, h3⟩ := (h ab cv bv).run g _ w hS cs
  exact ⟨_, w', fr, ⟨_, _, ⟨rfl, rfl⟩, rfl, pool_shut h2⟩, h3⟩
theorem closedN {f : FuncId} {args : List Value} {V : Value} {p n k : Nat} {u : Nat → Option Nat} (hk : k < n) (hu : u k = none) (h : ∀ ab cv bv, Does Try.prog f args [HdP p ab n cv bv, PtP ab n u] (RetE (fun b : Nat => True) (fun _ => V) (fun b => [HdP p ab n cv bv, PtP ab n (upd u k (some b)), AreP b]))) : Does Try.prog f args [PoolP p n u] (RetE (fun b : Nat => True) (fun _ => V) (fun b => [PoolP p n (upd u k (some b))])) := by
  constructor
  intro g F w hS
  obtain ⟨ab, cv, bv, hS⟩ := pool_open hS
  intro cs
  obtain ⟨e, w', fr, ⟨v, ps, ⟨b, _, rfl, rfl⟩, rfl, h2⟩, h3⟩ := (h ab cv bv).run g _ w hS cs
  refine ⟨_, w', fr, ⟨_, _, ⟨b, trivial, rfl, rfl⟩, rfl, ?_⟩, h3⟩
  have h4 : SL g (AreP b :: AllP ((List.range n).filterMap u) :: HdP p ab n cv bv :: PtP ab n (upd u k (some b)) :: F) w' := (h2.pull 3).pull 3
  have h5 := all_perm (fm_put u b n k hk hu).symm (all_put h4)
  exact pool_shut (ab := ab) (cv := cv) (bv := bv) ((h5.pull 2).pull 2)
theorem closedX {f : FuncId} {args : List Value} {V : Value} {p n k b : Nat} {u : Nat → Option Nat} (hk : k < n) (hu : u k = some b) (h : ∀ ab cv bv, Does Try.prog f args [HdP p ab n cv bv, PtP ab n u, AreP b] (Ret V [HdP p ab n cv bv, PtP ab n (upd u k none)])) : Does Try.prog f args [PoolP p n u] (Ret V [PoolP p n (upd u k none)]) := by
  constructor
  intro g F w hS
  obtain ⟨ab, cv, bv, hS⟩ := pool_open hS
  intro cs
  have e : u = upd (upd u k none) k (some b) := by
    funext j; unfold upd; split
    · rename_i h; rw [h]; exact hu
    · rfl
  have hp : ((List.range n).filterMap u).Perm (b :: (List.range n).filterMap (upd u k none)) := by
    have := fm_put (upd u k none) b n k hk (by unfold upd; rw [if_pos rfl])
    rwa [← e] at this
  have h0 : SL g (AllP ((List.range n).filterMap u) :: HdP p ab n cv bv :: PtP ab n u :: F) w := hS.pull 2
  have h1 := all_take (all_perm hp h0)
  have h2 : SL g ([HdP p ab n cv bv, PtP ab n u, AreP b] ++ (AllP ((List.range n).filterMap (upd u k none)) :: F)) w := (h1.pull 3).pull 3
  obtain ⟨e', w', fr, ⟨v, ps, ⟨rfl, rfl⟩, rfl, h3⟩, h4⟩ := (h ab cv bv).run g _ w h2 cs
  exact ⟨_, w', fr, ⟨_, _, ⟨rfl, rfl⟩, rfl, pool_shut h3⟩, h4⟩
end Go.Proofs.Ytmplimmcjdkhlaa
