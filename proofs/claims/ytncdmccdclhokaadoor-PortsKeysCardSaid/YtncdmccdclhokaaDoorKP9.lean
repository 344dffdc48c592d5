/- The ports' laws: acts, made. -/
import Derived.Test.YtncdmccdclhokaaDoorKP8
namespace Go.Proofs.YtncdmccdclhokaaDoor
open Go.Sl Go.Xg
set_option linter.unusedVariables false
set_option linter.unusedSimpArgs false
set_option maxHeartbeats 4000000
set_option maxRecDepth 100000
variable {te : TypeId}

set_option maxHeartbeats 0 in
theorem acts_d (p : Nat) (σ : Po) (a : Option Addr) (c : Nat) (xs : List Int) (hx : OkX (σ, xs)) (A : HP) (la : Option Addr) (n lc : Nat) (l : List Act) (hn : l.length = n) (hn2 : n ≤ maxLen) (hr : Reads A 3 (.slice la n lc) n (recs actC l)) (hl : ∀ i, i < n → (l.getD i default).ok) :
    Does Tryd.prog 26 [pt p, .slice la n lc] [PoS p σ a c xs, bts a c xs, (Drv te), A]
      (RetE (fun x : Po × Option Addr × Nat × List Int => (x.1, x.2.2.2) = doN l (min n 200) (σ, xs)) (fun _ => .bool true) (fun x => [PoS p x.1 x.2.1 x.2.2.1 x.2.2.2, bts x.2.1 x.2.2.1 x.2.2.2, (Drv te), A])) := by
  unfold maxLen at hn2
  (focus
    refine Xg.spec_of Go.Proofs.Tryd.func26 rfl Go.Proofs.Tryd.ntmps26 fun g F => ?_)
  (focus
    refine Xg.at_seq ?_
    refine Xg.at_region ?_
    refine Xg.ops_op (by kernel_rfl) (Xg.opx_pure ((Value.bool false)) rfl (fun _ => by kernel_rfl) ?_)
    refine Xg.ops_nil ?_
    refine Xg.at_seq ?_
    refine Xg.at_seq ?_
    refine Xg.at_region ?_
    refine Xg.ops_op (by kernel_rfl) (Xg.opx_pure ((Value.int IntKind.i64 (0 : Int))) rfl (fun _ => by kernel_rfl) ?_)
    refine Xg.ops_nil ?_
    refine Xg.at_block ?_)
  (focus
    refine Xg.at_rounds_inv (α := (Nat × Po × Option Addr × Nat × List Int) × (Nat → Value)) (fun x => (fun x => x.1 ≤ min n 200 ∧ (x.2.1, x.2.2.2.2) = doN l x.1 (σ, xs)) x.1) (fun x => (fun x => n - x.1) x.1) (fun x => Xg.headT [Value.pointer (some (Addr.mk p (0 : Nat) none)), Value.slice la n lc, Value.tuple #[], Value.tuple #[], Value.bool false, Value.int IntKind.i64 (0 : Int), Value.tuple #[], Value.tuple #[], Value.tuple #[], Value.tuple #[], Value.tuple #[], Value.tuple #[], Value.tuple #[], Value.tuple #[], Value.tuple #[], Value.tuple #[], Value.tuple #[], Value.tuple #[], Value.tuple #[], Value.tuple #[], Value.tuple #[], Value.tuple #[], Value.tuple #[], Value.tuple #[], Value.tuple #[], Value.tuple #[], Value.tuple #[], Value.tuple #[], Value.tuple #[], Value.tuple #[], Value.tuple #[], Value.tuple #[], Value.tuple #[], Value.tuple #[], Value.tuple #[], Value.tuple #[], Value.tuple #[], Value.tuple #[], Value.tuple #[], Value.tuple #[], Value.tuple #[], Value.tuple #[], Value.tuple #[], Value.tuple #[], Value.tuple #[], Value.tuple #[], Value.tuple #[], Value.tuple #[], Value.tuple #[], Value.tuple #[], Value.tuple #[], Value.tuple #[], Value.tuple #[], Value.tuple #[], Value.tuple #[], Value.tuple #[], Value.tuple #[], Value.tuple #[], Value.tuple #[], Value.tuple #[], Value.tuple #[], Value.tuple #[], Value.tuple #[], Value.tuple #[], Value.tuple #[], Value.tuple #[], Value.tuple #[], Value.tuple #[], Value.tuple #[], Value.tuple #[], Value.tuple #[], Value.tuple #[], Value.tuple #[], Value.tuple #[]] [4, 6, 7, 8, 9, 10, 11, 12, 13, 14, 15, 16, 17, 18, 19, 20, 21, 22, 23, 24, 25, 26, 27, 28, 29, 30, 31, 32, 33, 34, 35, 36, 37, 38, 39, 40, 41, 42, 43, 44, 45, 46, 47, 48, 49, 50, 51, 52, 53, 54, 55, 56, 57, 58, 59, 60, 61, 62, 63, 64, 65, 66, 67, 68, 69, 70, 71, 72, 73] ((fun x => [(5, .int .i64 (x.1 : Nat))]) x.1) x.2) (fun x => (fun x => [PoS p x.2.1 x.2.2.1 x.2.2.2.1 x.2.2.2.2, bts x.2.2.1 x.2.2.2.1 x.2.2.2.2, (Drv te), A]) x.1) (((0, σ, a, c, xs)), fun j => ([Value.pointer (some (Addr.mk p (0 : Nat) none)), Value.slice la n lc, Value.tuple #[], Value.tuple #[], Value.bool false, Value.int IntKind.i64 (0 : Int), Value.tuple #[], Value.tuple #[], Value.tuple #[], Value.tuple #[], Value.tuple #[], Value.tuple #[], Value.tuple #[], Value.tuple #[], Value.tuple #[], Value.tuple #[], Value.tuple #[], Value.tuple #[], Value.tuple #[], Value.tuple #[], Value.tuple #[], Value.tuple #[], Value.tuple #[], Value.tuple #[], Value.tuple #[], Value.tuple #[], Value.tuple #[], Value.tuple #[], Value.tuple #[], Value.tuple #[], Value.tuple #[], Value.tuple #[], Value.tuple #[], Value.tuple #[], Value.tuple #[], Value.tuple #[], Value.tuple #[], Value.tuple #[], Value.tuple #[], Value.tuple #[], Value.tuple #[], Value.tuple #[], Value.tuple #[], Value.tuple #[], Value.tuple #[], Value.tuple #[], Value.tuple #[], Value.tuple #[], Value.tuple #[], Value.tuple #[], Value.tuple #[], Value.tuple #[], Value.tuple #[], Value.tuple #[], Value.tuple #[], Value.tuple #[], Value.tuple #[], Value.tuple #[], Value.tuple #[], Value.tuple #[], Value.tuple #[], Value.tuple #[], Value.tuple #[], Value.tuple #[], Value.tuple #[], Value.tuple #[], Value.tuple #[], Value.tuple #[], Value.tuple #[], Value.tuple #[], Value.tuple #[], Value.tuple #[], Value.tuple #[], Value.tuple #[]] : List Value).getD j undef) (by kernel_rfl) (by kernel_rfl) ?_ ?_)
  · exact ⟨Nat.zero_le _, rfl⟩
  rintro ⟨⟨i, σ', a', c', xs'⟩, J⟩ ⟨hi, he⟩ ih
  have hk := doN_ok hx l i
  dsimp only at hi he
  rw [← he] at hk
  obtain ⟨hk1, hk2⟩ := hk
  dsimp only at hk1 hk2
  (focus
    refine Xg.At.same (T' := [Value.pointer (some (Addr.mk p (0 : Nat) none)), Value.slice la n lc, Value.tuple #[], Value.tuple #[], ((i, σ', a', c', xs'), J).snd (4 : Nat), Value.int IntKind.i64 (↑i : Int), ((i, σ', a', c', xs'), J).snd (6 : Nat), ((i, σ', a', c', xs'), J).snd (7 : Nat), ((i, σ', a', c', xs'), J).snd (8 : Nat), ((i, σ', a', c', xs'), J).snd (9 : Nat), ((i, σ', a', c', xs'), J).snd (10 : Nat), ((i, σ', a', c', xs'), J).snd (11 : Nat), ((i, σ', a', c', xs'), J).snd (12 : Nat), ((i, σ', a', c', xs'), J).snd (13 : Nat), ((i, σ', a', c', xs'), J).snd (14 : Nat), ((i, σ', a', c', xs'), J).snd (15 : Nat), ((i, σ', a', c', xs'), J).snd (16 : Nat), ((i, σ', a', c', xs'), J).snd (17 : Nat), ((i, σ', a', c', xs'), J).snd (18 : Nat), ((i, σ', a', c', xs'), J).snd (19 : Nat), ((i, σ', a', c', xs'), J).snd (20 : Nat), ((i, σ', a', c', xs'), J).snd (21 : Nat), ((i, σ', a', c', xs'), J).snd (22 : Nat), ((i, σ', a', c', xs'), J).snd (23 : Nat), ((i, σ', a', c', xs'), J).snd (24 : Nat), ((i, σ', a', c', xs'), J).snd (25 : Nat), ((i, σ', a', c', xs'), J).snd (26 : Nat), ((i, σ', a', c', xs'), J).snd (27 : Nat), ((i, σ', a', c', xs'), J).snd (28 : Nat), ((i, σ', a', c', xs'), J).snd (29 : Nat), ((i, σ', a', c', xs'), J).snd (30 : Nat), ((i, σ', a', c', xs'), J).snd (31 : Nat), ((i, σ', a', c', xs'), J).snd (32 : Nat), ((i, σ', a', c', xs'), J).snd (33 : Nat), ((i, σ', a', c', xs'), J).snd (34 : Nat), ((i, σ', a', c', xs'), J).snd (35 : Nat), ((i, σ', a', c', xs'), J).snd (36 : Nat), ((i, σ', a', c', xs'), J).snd (37 : Nat), ((i, σ', a', c', xs'), J).snd (38 : Nat), ((i, σ', a', c', xs'), J).snd (39 : Nat), ((i, σ', a', c', xs'), J).snd (40 : Nat), ((i, σ', a', c', xs'), J).snd (41 : Nat), ((i, σ', a', c', xs'), J).snd (42 : Nat), ((i, σ', a', c', xs'), J).snd (43 : Nat), ((i, σ', a', c', xs'), J).snd (44 : Nat), ((i, σ', a', c', xs'), J).snd (45 : Nat), ((i, σ', a', c', xs'), J).snd (46 : Nat), ((i, σ', a', c', xs'), J).snd (47 : Nat), ((i, σ', a', c', xs'), J).snd (48 : Nat), ((i, σ', a', c', xs'), J).snd (49 : Nat), ((i, σ', a', c', xs'), J).snd (50 : Nat), ((i, σ', a', c', xs'), J).snd (51 : Nat), ((i, σ', a', c', xs'), J).snd (52 : Nat), ((i, σ', a', c', xs'), J).snd (53 : Nat), ((i, σ', a', c', xs'), J).snd (54 : Nat), ((i, σ', a', c', xs'), J).snd (55 : Nat), ((i, σ', a', c', xs'), J).snd (56 : Nat), ((i, σ', a', c', xs'), J).snd (57 : Nat), ((i, σ', a', c', xs'), J).snd (58 : Nat), ((i, σ', a', c', xs'), J).snd (59 : Nat), ((i, σ', a', c', xs'), J).snd (60 : Nat), ((i, σ', a', c', xs'), J).snd (61 : Nat), ((i, σ', a', c', xs'), J).snd (62 : Nat), ((i, σ', a', c', xs'), J).snd (63 : Nat), ((i, σ', a', c', xs'), J).snd (64 : Nat), ((i, σ', a', c', xs'), J).snd (65 : Nat), ((i, σ', a', c', xs'), J).snd (66 : Nat), ((i, σ', a', c', xs'), J).snd (67 : Nat), ((i, σ', a', c', xs'), J).snd (68 : Nat), ((i, σ', a', c', xs'), J).snd (69 : Nat), ((i, σ', a', c', xs'), J).snd (70 : Nat), ((i, σ', a', c', xs'), J).snd (71 : Nat), ((i, σ', a', c', xs'), J).snd (72 : Nat), ((i, σ', a', c', xs'), J).snd (73 : Nat)]) (L' := [PoS p ((i, σ', a', c', xs'), J).fst.snd.fst ((i, σ', a', c', xs'), J).fst.snd.snd.fst ((i, σ', a', c', xs'), J).fst.snd.snd.snd.fst ((i, σ', a', c', xs'), J).fst.snd.snd.snd.snd, bts ((i, σ', a', c', xs'), J).fst.snd.snd.fst ((i, σ', a', c', xs'), J).fst.snd.snd.snd.fst ((i, σ', a', c', xs'), J).fst.snd.snd.snd.snd, (Drv te), A]) (by kernel_rfl) rfl ?_)
  by_cases hlt : i < min n 200
  · obtain ⟨hlt1, hlt2⟩ : i < n ∧ i < 200 := by omega
    obtain ⟨ho1, ho2, ho3⟩ := hl i hlt1
    have hd : doN l (i + 1) (σ, xs) = doAct (σ', xs') (l.getD i default) := by rw [doN, ← he]
    clear he
    (focus
      refine Xg.at_seq ?_
      refine Xg.at_seq ?_
      refine Xg.at_region ?_
      refine Xg.ops_op (by kernel_rfl) (Xg.opx_pure ((Value.int IntKind.i64 (↑i : Int))) rfl (fun _ => by kernel_rfl) ?_)
      refine Xg.ops_op (by kernel_rfl) (Xg.opx_pure ((Value.slice la n lc)) rfl (fun _ => by kernel_rfl) ?_)
      refine Xg.ops_op (by kernel_rfl) (Xg.opx_pure ((Value.int IntKind.i64 (↑n : Int))) rfl (fun _ => by kernel_rfl) ?_)
      refine Xg.ops_op (by kernel_rfl) (Xg.opx_pure (.bool (decide ((((↑i : Int)) : Int) < ((↑n : Int))))) rfl (fun _ => by kernel_rfl) ?_)
      refine Xg.ops_op (by kernel_rfl) (Xg.opx_pure ((Value.bool (decide ((↑i : Int) < (↑n : Int))))) rfl (fun _ => by kernel_rfl) ?_)
      refine Xg.ops_flag (j := 11) (c := (decide ((↑i : Int) < (↑n : Int)))) (by kernel_rfl) (fun _ => ?_) (fun xh1 => absurd (of_decide_eq_false xh1) (by omega))
      refine Xg.ops_op (by kernel_rfl) (Xg.opx_pure ((Value.int IntKind.i64 (↑i : Int))) rfl (fun _ => by kernel_rfl) ?_)
      refine Xg.ops_op (by kernel_rfl) (Xg.opx_pure (.bool (decide ((((↑i : Int)) : Int) < ((200 : Int))))) rfl (fun _ => by kernel_rfl) ?_)
      refine Xg.ops_op (by kernel_rfl) (Xg.opx_pure ((Value.bool (decide ((↑i : Int) < (200 : Int))))) rfl (fun _ => by kernel_rfl) ?_)
      refine Xg.ops_nil ?_
      refine Xg.at_true (t := decide (((↑i : Int) < (200 : Int)))) (by kernel_rfl) (decide_eq_true (by omega)) ?_
      refine Xg.at_skip ?_
      refine Xg.at_seq ?_
      refine Xg.at_block ?_
      refine Xg.at_seq ?_
      refine Xg.at_region ?_
      refine Xg.ops_op (by kernel_rfl) (Xg.opx_pure ((Value.int IntKind.i64 (0 : Int))) rfl (fun _ => by kernel_rfl) ?_)
      refine Xg.ops_nil ?_
      refine Xg.at_seq ?_
      refine Xg.at_seq ?_
      refine Xg.at_region ?_
      refine Xg.ops_op (by kernel_rfl) (Xg.opx_pure ((Value.slice la n lc)) rfl (fun _ => by kernel_rfl) ?_)
      refine Xg.ops_op (by kernel_rfl) (Xg.opx_pure ((Value.int IntKind.i64 (↑i : Int))) rfl (fun _ => by kernel_rfl) ?_)
      refine Xg.ops_op (by kernel_rfl) (Xg.opx_rd 3 (.pointer (some (Addr.mk (Xg.blk la) (offA la + i * (3 : Nat)) none))) rfl hr (by kernel_rfl) (Xg.run_ix_rd (elem := 41) (kd := .i64) (e := ((↑i : Int))) 3 i (offA la + i * (3 : Nat)) (by kernel_rfl) (by kernel_rfl) (by kernel_rfl) (by kernel_rfl) rfl (by omega) (by rw [Xg.recs_len (wd := 3) (fun _ => rfl)]; omega) (by omega)) ?_)
      refine Xg.ops_op (by kernel_rfl) (Xg.opx_pure ((Value.pointer (some (Addr.mk (blk la) (offA la + i * (3 : Nat)) none)))) rfl (fun _ => by kernel_rfl) ?_)
      refine Xg.ops_op (by kernel_rfl) (Xg.opx_rd 3 (Value.int IntKind.i64 (l.getD i default).kind) rfl hr (by kernel_rfl) (Xg.run_load_rd (off0 := (offA la + i * (3 : Nat))) (i * (3 : Nat)) (by kernel_rfl) (by omega) (Xg.get_recs' (wd := 3) (fun _ => rfl) default i 0 (by omega) (by decide) (by omega) (by kernel_rfl)) (by kernel_rfl)) ?_)
      refine Xg.ops_op (by kernel_rfl) (Xg.opx_callE' [] (fun xx1 => [PoS p σ' a' c' xs', bts a' c' xs', (Drv te), A]) (fun _ => by kernel_rfl) (@Go.Proofs.YtncdmccdclhokaaDoor.pick_d (((l.getD i default).kind)) ((nat_lit 6)) (by omega) (by first | rfl | decide | (constructor <;> omega) | (simp; done) | (simp; omega))) (by kernel_rfl) (by kernel_rfl) (by kernel_rfl) fun xx1 xh1 => ?_)
      try dsimp only at xh1
      refine Xg.ops_nil ?_
      refine Xg.at_block ?_
      refine Xg.at_seq ?_
      refine Xg.at_seq ?_
      refine Xg.at_region ?_
      refine Xg.ops_op (by kernel_rfl) (Xg.opx_pure (.bool (decide ((((↑xx1 : Int)) : Int) = ((0 : Int))))) rfl (fun _ => by kernel_rfl) ?_)
      refine Xg.ops_op (by kernel_rfl) (Xg.opx_pure ((Value.bool (decide ((↑xx1 : Int) = (0 : Int))))) rfl (fun _ => by kernel_rfl) ?_)
      refine Xg.ops_nil ?_
      refine Xg.at_dec (p := ((↑xx1 : Int) = (0 : Int))) (by kernel_rfl) (fun xh2 => ?_) (fun xh2 => ?_)
      refine Xg.at_skip ?_
      refine Xg.at_true (t := decide (((↑xx1 : Int) = (0 : Int)))) (by kernel_rfl) (decide_eq_true (by omega)) ?_
      refine Xg.at_region ?_
      refine Xg.ops_op (by kernel_rfl) (Xg.opx_pure ((Value.pointer (some (Addr.mk p (0 : Nat) none)))) rfl (fun _ => by kernel_rfl) ?_)
      refine Xg.ops_op (by kernel_rfl) (Xg.opx_pure ((Value.slice la n lc)) rfl (fun _ => by kernel_rfl) ?_)
      refine Xg.ops_op (by kernel_rfl) (Xg.opx_pure ((Value.int IntKind.i64 (↑i : Int))) rfl (fun _ => by kernel_rfl) ?_)
      refine Xg.ops_op (by kernel_rfl) (Xg.opx_rd 3 (.pointer (some (Addr.mk (Xg.blk la) (offA la + i * (3 : Nat)) none))) rfl hr (by kernel_rfl) (Xg.run_ix_rd (elem := 41) (kd := .i64) (e := ((↑i : Int))) 3 i (offA la + i * (3 : Nat)) (by kernel_rfl) (by kernel_rfl) (by kernel_rfl) (by kernel_rfl) rfl (by omega) (by rw [Xg.recs_len (wd := 3) (fun _ => rfl)]; omega) (by omega)) ?_)
      refine Xg.ops_op (by kernel_rfl) (Xg.opx_pure ((Value.pointer (some (Addr.mk (blk la) (offA la + i * (3 : Nat) + (1 : Nat)) none)))) rfl (fun _ => by kernel_rfl) ?_)
      refine Xg.ops_op (by kernel_rfl) (Xg.opx_rd 3 (Value.int IntKind.i64 (l.getD i default).a) rfl hr (by kernel_rfl) (Xg.run_load_rd (off0 := (offA la + i * (3 : Nat) + (1 : Nat))) (i * (3 : Nat) + (1 : Nat)) (by kernel_rfl) (by omega) (Xg.get_recs' (wd := 3) (fun _ => rfl) default i 1 (by omega) (by decide) (by omega) (by kernel_rfl)) (by kernel_rfl)) ?_)
      refine Xg.ops_op (by kernel_rfl) (Xg.opx_callE' [] (fun xx2 => [PoS p σ' a' c' xs', bts a' c' xs', (Drv te), A]) (fun _ => by kernel_rfl) (@Go.Proofs.YtncdmccdclhokaaDoor.pick_d (((l.getD i default).a)) ((nat_lit 5000)) (by omega) (by first | rfl | decide | (constructor <;> omega) | (simp; done) | (simp; omega))) (by kernel_rfl) (by kernel_rfl) (by kernel_rfl) fun xx2 xh3 => ?_)
      try dsimp only at xh3
      refine Xg.ops_op (by kernel_rfl) (Xg.opx_callE' [0, 1, 2] (fun xx3 => [PoS p xx3.fst xx3.snd.fst xx3.snd.snd.fst xx3.snd.snd.snd, bts xx3.snd.fst xx3.snd.snd.fst xx3.snd.snd.snd, (Drv te), A]) (fun _ => by kernel_rfl) (@Go.Proofs.YtncdmccdclhokaaDoor.step_d (te) (p) (σ') (by omega) (a') (c') (xs') (by omega) (xx2) (by omega)) (by kernel_rfl) (by kernel_rfl) (by kernel_rfl) fun xx3 xh4 => ?_)
      try dsimp only at xh4
      refine Xg.ops_op (by kernel_rfl) (Xg.opx_pure ((Value.int IntKind.i64 (0 : Int))) rfl (fun _ => by kernel_rfl) ?_)
      refine Xg.ops_nil ?_
      refine Xg.at_inBlock ?_
      refine Xg.at_seq ?_
      refine Xg.at_region ?_
      refine Xg.ops_op (by kernel_rfl) (Xg.opx_pure ((Value.int IntKind.i64 (0 : Int))) rfl (fun _ => by kernel_rfl) ?_)
      refine Xg.ops_op (by kernel_rfl) (Xg.opx_pure ((Value.bool false)) rfl (fun _ => by kernel_rfl) ?_)
      refine Xg.ops_nil ?_
      refine Xg.at_false (t := false) (by kernel_rfl) rfl ?_
      refine Xg.at_skip ?_
      refine Xg.at_inBlock ?_
      refine Xg.at_region ?_
      refine Xg.ops_op (by kernel_rfl) (Xg.opx_pure ((Value.int IntKind.i64 (↑i : Int))) rfl (fun _ => by kernel_rfl) ?_)
      refine Xg.ops_op (by kernel_rfl) (Xg.opx_int .i64 (IntKind.wrap .i64 (((↑i : Int) + (1 : Int)))) rfl (fun _ => by kernel_rfl) (Xg.wrap_i64_in (by omega)) ?_)
      refine Xg.ops_op (by kernel_rfl) (Xg.opx_pure ((Value.int IntKind.i64 ((↑i : Int) + (1 : Int)))) rfl (fun _ => by kernel_rfl) ?_)
      refine Xg.ops_nil ?_
      refine Xg.at_inLoop ?_
      rotate_left
      refine Xg.at_region ?_
      refine Xg.ops_op (by kernel_rfl) (Xg.opx_pure (.bool (decide ((((↑xx1 : Int)) : Int) = ((1 : Int))))) rfl (fun _ => by kernel_rfl) ?_)
      refine Xg.ops_op (by kernel_rfl) (Xg.opx_pure ((Value.bool (decide ((↑xx1 : Int) = (1 : Int))))) rfl (fun _ => by kernel_rfl) ?_)
      refine Xg.ops_nil ?_
      refine Xg.at_dec (p := ((↑xx1 : Int) = (1 : Int))) (by kernel_rfl) (fun xh3 => ?_) (fun xh3 => ?_)
      refine Xg.at_region ?_
      refine Xg.ops_op (by kernel_rfl) (Xg.opx_pure ((Value.pointer (some (Addr.mk p (0 : Nat) none)))) rfl (fun _ => by kernel_rfl) ?_)
      refine Xg.ops_op (by kernel_rfl) (Xg.opx_pure ((Value.slice la n lc)) rfl (fun _ => by kernel_rfl) ?_)
      refine Xg.ops_op (by kernel_rfl) (Xg.opx_pure ((Value.int IntKind.i64 (↑i : Int))) rfl (fun _ => by kernel_rfl) ?_)
      refine Xg.ops_op (by kernel_rfl) (Xg.opx_rd 3 (.pointer (some (Addr.mk (Xg.blk la) (offA la + i * (3 : Nat)) none))) rfl hr (by kernel_rfl) (Xg.run_ix_rd (elem := 41) (kd := .i64) (e := ((↑i : Int))) 3 i (offA la + i * (3 : Nat)) (by kernel_rfl) (by kernel_rfl) (by kernel_rfl) (by kernel_rfl) rfl (by omega) (by rw [Xg.recs_len (wd := 3) (fun _ => rfl)]; omega) (by omega)) ?_)
      refine Xg.ops_op (by kernel_rfl) (Xg.opx_pure ((Value.pointer (some (Addr.mk (blk la) (offA la + i * (3 : Nat) + (1 : Nat)) none)))) rfl (fun _ => by kernel_rfl) ?_)
      refine Xg.ops_op (by kernel_rfl) (Xg.opx_rd 3 (Value.int IntKind.i64 (l.getD i default).a) rfl hr (by kernel_rfl) (Xg.run_load_rd (off0 := (offA la + i * (3 : Nat) + (1 : Nat))) (i * (3 : Nat) + (1 : Nat)) (by kernel_rfl) (by omega) (Xg.get_recs' (wd := 3) (fun _ => rfl) default i 1 (by omega) (by decide) (by omega) (by kernel_rfl)) (by kernel_rfl)) ?_)
      refine Xg.ops_op (by kernel_rfl) (Xg.opx_callE' [] (fun xx2 => [PoS p σ' a' c' xs', bts a' c' xs', (Drv te), A]) (fun _ => by kernel_rfl) (@Go.Proofs.YtncdmccdclhokaaDoor.pick_d (((l.getD i default).a)) ((nat_lit 5000)) (by omega) (by first | rfl | decide | (constructor <;> omega) | (simp; done) | (simp; omega))) (by kernel_rfl) (by kernel_rfl) (by kernel_rfl) fun xx2 xh4 => ?_)
      try dsimp only at xh4
      refine Xg.ops_op (by kernel_rfl) (Xg.opx_callE' [0, 1, 2] (fun xx3 => [PoS p xx3.fst xx3.snd.fst xx3.snd.snd.fst xx3.snd.snd.snd, bts xx3.snd.fst xx3.snd.snd.fst xx3.snd.snd.snd, (Drv te), A]) (fun _ => by kernel_rfl) (@Go.Proofs.YtncdmccdclhokaaDoor.step_d (te) (p) (σ') (by omega) (a') (c') (xs') (by omega) (xx2) (by omega)) (by kernel_rfl) (by kernel_rfl) (by kernel_rfl) fun xx3 xh5 => ?_)
      try dsimp only at xh5
      refine Xg.ops_op (by kernel_rfl) (Xg.opx_pure ((Value.int IntKind.i64 (0 : Int))) rfl (fun _ => by kernel_rfl) ?_)
      refine Xg.ops_nil ?_
      refine Xg.at_inBlock ?_
      refine Xg.at_seq ?_
      refine Xg.at_region ?_
      refine Xg.ops_op (by kernel_rfl) (Xg.opx_pure ((Value.int IntKind.i64 (0 : Int))) rfl (fun _ => by kernel_rfl) ?_)
      refine Xg.ops_op (by kernel_rfl) (Xg.opx_pure ((Value.bool false)) rfl (fun _ => by kernel_rfl) ?_)
      refine Xg.ops_nil ?_
      refine Xg.at_false (t := false) (by kernel_rfl) rfl ?_
      refine Xg.at_skip ?_
      refine Xg.at_inBlock ?_
      refine Xg.at_region ?_
      refine Xg.ops_op (by kernel_rfl) (Xg.opx_pure ((Value.int IntKind.i64 (↑i : Int))) rfl (fun _ => by kernel_rfl) ?_)
      refine Xg.ops_op (by kernel_rfl) (Xg.opx_int .i64 (IntKind.wrap .i64 (((↑i : Int) + (1 : Int)))) rfl (fun _ => by kernel_rfl) (Xg.wrap_i64_in (by omega)) ?_)
      refine Xg.ops_op (by kernel_rfl) (Xg.opx_pure ((Value.int IntKind.i64 ((↑i : Int) + (1 : Int)))) rfl (fun _ => by kernel_rfl) ?_)
      refine Xg.ops_nil ?_
      refine Xg.at_inLoop ?_
      rotate_left
      refine Xg.at_seq ?_
      refine Xg.at_seq ?_
      refine Xg.at_region ?_
      refine Xg.ops_op (by kernel_rfl) (Xg.opx_pure (.bool (decide ((((↑xx1 : Int)) : Int) = ((2 : Int))))) rfl (fun _ => by kernel_rfl) ?_)
      refine Xg.ops_op (by kernel_rfl) (Xg.opx_pure ((Value.bool (decide ((↑xx1 : Int) = (2 : Int))))) rfl (fun _ => by kernel_rfl) ?_)
      refine Xg.ops_nil ?_
      refine Xg.at_dec (p := ((↑xx1 : Int) = (2 : Int))) (by kernel_rfl) (fun xh4 => ?_) (fun xh4 => ?_)
      refine Xg.at_skip ?_
      refine Xg.at_true (t := decide (((↑xx1 : Int) = (2 : Int)))) (by kernel_rfl) (decide_eq_true (by omega)) ?_
      refine Xg.at_draw [1, 7, 9, 15, 16] [(0, [0, 1, 2, 3, 4, 5, 6, 7, 8, 9, 10, 11, 12, 13, 14, 15], (RdIs (3 : Nat) (Value.slice la n lc) n (recs actC l))), (4, [0, 1, 2, 3, 4, 10, 11, 12, 13, 14], (RdIs (3 : Nat) (Value.slice la n lc) n (recs actC l))), (6, [0, 1, 2, 3, 4, 5, 6, 10, 11, 12, 13, 14], (RdIs (3 : Nat) (Value.slice la n lc) n (recs actC l))), (12, [0, 1, 2, 3, 4, 5, 6, 7, 8, 9, 10, 11, 12], (RdIs (3 : Nat) (Value.slice la n lc) n (recs actC l))), (14, [0, 1, 2, 3, 4, 5, 6, 7, 8, 9, 10, 11, 12, 13, 14], (RdIs (3 : Nat) (Value.slice la n lc) n (recs actC l)))] (by kernel_rfl) ?_
      refine Xg.any_pure ((Value.pointer (some (Addr.mk p (0 : Nat) none)))) 0 (by kernel_rfl) rfl (by kernel_rfl) (by kernel_rfl) (by kernel_rfl) (by kernel_rfl) rfl (fun _ => by kernel_rfl) ?_
      refine Xg.any_pure ((Value.slice la n lc)) 2 (by kernel_rfl) rfl (by kernel_rfl) (by kernel_rfl) (by kernel_rfl) (by kernel_rfl) rfl (fun _ => by kernel_rfl) ?_
      refine Xg.any_pure ((Value.int IntKind.i64 (↑i : Int))) 3 (by kernel_rfl) rfl (by kernel_rfl) (by kernel_rfl) (by kernel_rfl) (by kernel_rfl) rfl (fun _ => by kernel_rfl) ?_
      refine Xg.any_reads (.pointer (some (Addr.mk (Xg.blk la) (offA la + i * (3 : Nat)) none))) 4 1 (by kernel_rfl) rfl (by kernel_rfl) (by kernel_rfl) (by kernel_rfl) (by kernel_rfl) rfl rfl (by kernel_rfl) (Xg.rd_now 3 hr (by kernel_rfl)) (Xg.run_ix_rd (elem := 41) (kd := .i64) (e := ((↑i : Int))) 3 i (offA la + i * (3 : Nat)) (by kernel_rfl) (by kernel_rfl) (by kernel_rfl) (by kernel_rfl) rfl (by omega) (by rw [Xg.recs_len (wd := 3) (fun _ => rfl)]; omega) (by omega)) ?_
      refine Xg.any_pure ((Value.pointer (some (Addr.mk (blk la) (offA la + i * (3 : Nat) + (1 : Nat)) none)))) 5 (by kernel_rfl) rfl (by kernel_rfl) (by kernel_rfl) (by kernel_rfl) (by kernel_rfl) rfl (fun _ => by kernel_rfl) ?_
      refine Xg.any_reads (Value.int IntKind.i64 (l.getD i default).a) 6 2 (by kernel_rfl) rfl (by kernel_rfl) (by kernel_rfl) (by kernel_rfl) (by kernel_rfl) rfl rfl (by kernel_rfl) (Xg.rd_now 3 hr (by kernel_rfl)) (Xg.run_load_rd (off0 := (offA la + i * (3 : Nat) + (1 : Nat))) (i * (3 : Nat) + (1 : Nat)) (by kernel_rfl) (by omega) (Xg.get_recs' (wd := 3) (fun _ => rfl) default i 1 (by omega) (by decide) (by omega) (by kernel_rfl)) (by kernel_rfl)) ?_
      refine Xg.any_pure ((Value.slice la n lc)) 10 (by kernel_rfl) rfl (by kernel_rfl) (by kernel_rfl) (by kernel_rfl) (by kernel_rfl) rfl (fun _ => by kernel_rfl) ?_
      refine Xg.any_pure ((Value.int IntKind.i64 (↑i : Int))) 11 (by kernel_rfl) rfl (by kernel_rfl) (by kernel_rfl) (by kernel_rfl) (by kernel_rfl) rfl (fun _ => by kernel_rfl) ?_
      refine Xg.any_reads (.pointer (some (Addr.mk (Xg.blk la) (offA la + i * (3 : Nat)) none))) 12 3 (by kernel_rfl) rfl (by kernel_rfl) (by kernel_rfl) (by kernel_rfl) (by kernel_rfl) rfl rfl (by kernel_rfl) (Xg.rd_now 3 hr (by kernel_rfl)) (Xg.run_ix_rd (elem := 41) (kd := .i64) (e := ((↑i : Int))) 3 i (offA la + i * (3 : Nat)) (by kernel_rfl) (by kernel_rfl) (by kernel_rfl) (by kernel_rfl) rfl (by omega) (by rw [Xg.recs_len (wd := 3) (fun _ => rfl)]; omega) (by omega)) ?_
      refine Xg.any_pure ((Value.pointer (some (Addr.mk (blk la) (offA la + i * (3 : Nat) + (2 : Nat)) none)))) 13 (by kernel_rfl) rfl (by kernel_rfl) (by kernel_rfl) (by kernel_rfl) (by kernel_rfl) rfl (fun _ => by kernel_rfl) ?_
      refine Xg.any_reads (Value.int IntKind.i64 (l.getD i default).b) 14 4 (by kernel_rfl) rfl (by kernel_rfl) (by kernel_rfl) (by kernel_rfl) (by kernel_rfl) rfl rfl (by kernel_rfl) (Xg.rd_now 3 hr (by kernel_rfl)) (Xg.run_load_rd (off0 := (offA la + i * (3 : Nat) + (2 : Nat))) (i * (3 : Nat) + (2 : Nat)) (by kernel_rfl) (by omega) (Xg.get_recs' (wd := 3) (fun _ => rfl) default i 2 (by omega) (by decide) (by omega) (by kernel_rfl)) (by kernel_rfl)) ?_
      refine Xg.any_each [1, 7] (by kernel_rfl) rfl ⟨?_, ?_, trivial⟩
      refine Xg.comes_act rfl (by kernel_rfl) (by kernel_rfl) (Xg.opx_bs (elem := 3) 1 [Value.int IntKind.i64 (65280 : Int), Value.int IntKind.i64 (65281 : Int), Value.int IntKind.i64 (65282 : Int), Value.int IntKind.i64 (65284 : Int), Value.int IntKind.i64 (65285 : Int), Value.int IntKind.i64 (65286 : Int), Value.int IntKind.i64 (65287 : Int), Value.int IntKind.i64 (65295 : Int)] [Value.int IntKind.i64 (65280 : Int), Value.int IntKind.i64 (65281 : Int), Value.int IntKind.i64 (65282 : Int), Value.int IntKind.i64 (65284 : Int), Value.int IntKind.i64 (65285 : Int), Value.int IntKind.i64 (65286 : Int), Value.int IntKind.i64 (65287 : Int), Value.int IntKind.i64 (65295 : Int)] (by kernel_rfl) (by kernel_rfl) (by decide) rfl (by kernel_rfl) (by kernel_rfl) (by kernel_rfl) (by kernel_rfl) fun xb1 => ?_)
      refine Xg.acts (Xg.owes_rd 4 hr (by kernel_rfl) (Xg.owes_rd 4 hr (by kernel_rfl) (Xg.owes_rd 4 hr (by kernel_rfl) (Xg.owes_rd 4 hr (by kernel_rfl) (Xg.owes_rd 4 hr (by kernel_rfl) Xg.owes_nil))))) ?_
      rotate_left
      refine Xg.comes_act rfl (by kernel_rfl) (by kernel_rfl) (Xg.opx_callE' [] (fun xx2 => [PoS p σ' a' c' xs', bts a' c' xs', (Drv te), A]) (fun _ => by kernel_rfl) (@Go.Proofs.YtncdmccdclhokaaDoor.pick_d (((l.getD i default).a)) ((nat_lit 8)) (by omega) (by first | rfl | decide | (constructor <;> omega) | (simp; done) | (simp; omega))) (by kernel_rfl) (by kernel_rfl) (by kernel_rfl) fun xx2 xh5 => ?_)
      try dsimp only at xh5
      refine Xg.acts (Xg.owes_rd 3 hr (by kernel_rfl) (Xg.owes_skip (by kernel_rfl) (Xg.owes_skip (by kernel_rfl) (Xg.owes_rd 3 hr (by kernel_rfl) (Xg.owes_rd 3 hr (by kernel_rfl) Xg.owes_nil))))) ?_
      rotate_left
      refine Xg.at_region ?_
      refine Xg.ops_op (by kernel_rfl) (Xg.opx_pure (.bool (decide ((((↑xx1 : Int)) : Int) = ((3 : Int))))) rfl (fun _ => by kernel_rfl) ?_)
      refine Xg.ops_op (by kernel_rfl) (Xg.opx_pure ((Value.bool (decide ((↑xx1 : Int) = (3 : Int))))) rfl (fun _ => by kernel_rfl) ?_)
      refine Xg.ops_nil ?_
      refine Xg.at_dec (p := ((↑xx1 : Int) = (3 : Int))) (by kernel_rfl) (fun xh5 => ?_) (fun xh5 => ?_)
      refine Xg.at_draw [1, 7, 9, 15, 16] [(4, [0, 1, 2, 3, 4, 10, 11, 12, 13, 14], (RdIs (3 : Nat) (Value.slice la n lc) n (recs actC l))), (6, [0, 1, 2, 3, 4, 5, 6, 10, 11, 12, 13, 14], (RdIs (3 : Nat) (Value.slice la n lc) n (recs actC l))), (12, [0, 1, 2, 3, 4, 5, 6, 7, 8, 9, 10, 11, 12], (RdIs (3 : Nat) (Value.slice la n lc) n (recs actC l))), (14, [0, 1, 2, 3, 4, 5, 6, 7, 8, 9, 10, 11, 12, 13, 14], (RdIs (3 : Nat) (Value.slice la n lc) n (recs actC l)))] (by kernel_rfl) ?_
      refine Xg.any_pure ((Value.pointer (some (Addr.mk p (0 : Nat) none)))) 0 (by kernel_rfl) rfl (by kernel_rfl) (by kernel_rfl) (by kernel_rfl) (by kernel_rfl) rfl (fun _ => by kernel_rfl) ?_
      refine Xg.any_pure ((Value.slice la n lc)) 2 (by kernel_rfl) rfl (by kernel_rfl) (by kernel_rfl) (by kernel_rfl) (by kernel_rfl) rfl (fun _ => by kernel_rfl) ?_
      refine Xg.any_pure ((Value.int IntKind.i64 (↑i : Int))) 3 (by kernel_rfl) rfl (by kernel_rfl) (by kernel_rfl) (by kernel_rfl) (by kernel_rfl) rfl (fun _ => by kernel_rfl) ?_
      refine Xg.any_reads (.pointer (some (Addr.mk (Xg.blk la) (offA la + i * (3 : Nat)) none))) 4 0 (by kernel_rfl) rfl (by kernel_rfl) (by kernel_rfl) (by kernel_rfl) (by kernel_rfl) rfl rfl (by kernel_rfl) (Xg.rd_now 3 hr (by kernel_rfl)) (Xg.run_ix_rd (elem := 41) (kd := .i64) (e := ((↑i : Int))) 3 i (offA la + i * (3 : Nat)) (by kernel_rfl) (by kernel_rfl) (by kernel_rfl) (by kernel_rfl) rfl (by omega) (by rw [Xg.recs_len (wd := 3) (fun _ => rfl)]; omega) (by omega)) ?_
      refine Xg.any_pure ((Value.pointer (some (Addr.mk (blk la) (offA la + i * (3 : Nat) + (1 : Nat)) none)))) 5 (by kernel_rfl) rfl (by kernel_rfl) (by kernel_rfl) (by kernel_rfl) (by kernel_rfl) rfl (fun _ => by kernel_rfl) ?_
      refine Xg.any_reads (Value.int IntKind.i64 (l.getD i default).a) 6 1 (by kernel_rfl) rfl (by kernel_rfl) (by kernel_rfl) (by kernel_rfl) (by kernel_rfl) rfl rfl (by kernel_rfl) (Xg.rd_now 3 hr (by kernel_rfl)) (Xg.run_load_rd (off0 := (offA la + i * (3 : Nat) + (1 : Nat))) (i * (3 : Nat) + (1 : Nat)) (by kernel_rfl) (by omega) (Xg.get_recs' (wd := 3) (fun _ => rfl) default i 1 (by omega) (by decide) (by omega) (by kernel_rfl)) (by kernel_rfl)) ?_
      refine Xg.any_pure ((Value.slice la n lc)) 10 (by kernel_rfl) rfl (by kernel_rfl) (by kernel_rfl) (by kernel_rfl) (by kernel_rfl) rfl (fun _ => by kernel_rfl) ?_
      refine Xg.any_pure ((Value.int IntKind.i64 (↑i : Int))) 11 (by kernel_rfl) rfl (by kernel_rfl) (by kernel_rfl) (by kernel_rfl) (by kernel_rfl) rfl (fun _ => by kernel_rfl) ?_
      refine Xg.any_reads (.pointer (some (Addr.mk (Xg.blk la) (offA la + i * (3 : Nat)) none))) 12 2 (by kernel_rfl) rfl (by kernel_rfl) (by kernel_rfl) (by kernel_rfl) (by kernel_rfl) rfl rfl (by kernel_rfl) (Xg.rd_now 3 hr (by kernel_rfl)) (Xg.run_ix_rd (elem := 41) (kd := .i64) (e := ((↑i : Int))) 3 i (offA la + i * (3 : Nat)) (by kernel_rfl) (by kernel_rfl) (by kernel_rfl) (by kernel_rfl) rfl (by omega) (by rw [Xg.recs_len (wd := 3) (fun _ => rfl)]; omega) (by omega)) ?_
      refine Xg.any_pure ((Value.pointer (some (Addr.mk (blk la) (offA la + i * (3 : Nat) + (2 : Nat)) none)))) 13 (by kernel_rfl) rfl (by kernel_rfl) (by kernel_rfl) (by kernel_rfl) (by kernel_rfl) rfl (fun _ => by kernel_rfl) ?_
      refine Xg.any_reads (Value.int IntKind.i64 (l.getD i default).b) 14 3 (by kernel_rfl) rfl (by kernel_rfl) (by kernel_rfl) (by kernel_rfl) (by kernel_rfl) rfl rfl (by kernel_rfl) (Xg.rd_now 3 hr (by kernel_rfl)) (Xg.run_load_rd (off0 := (offA la + i * (3 : Nat) + (2 : Nat))) (i * (3 : Nat) + (2 : Nat)) (by kernel_rfl) (by omega) (Xg.get_recs' (wd := 3) (fun _ => rfl) default i 2 (by omega) (by decide) (by omega) (by kernel_rfl)) (by kernel_rfl)) ?_
      refine Xg.any_each [1, 7] (by kernel_rfl) rfl ⟨?_, ?_, trivial⟩
      refine Xg.comes_act rfl (by kernel_rfl) (by kernel_rfl) (Xg.opx_bs (elem := 3) 1 [Value.int IntKind.i64 (65280 : Int), Value.int IntKind.i64 (65281 : Int), Value.int IntKind.i64 (65282 : Int), Value.int IntKind.i64 (65284 : Int), Value.int IntKind.i64 (65285 : Int), Value.int IntKind.i64 (65286 : Int), Value.int IntKind.i64 (65287 : Int), Value.int IntKind.i64 (65295 : Int)] [Value.int IntKind.i64 (65280 : Int), Value.int IntKind.i64 (65281 : Int), Value.int IntKind.i64 (65282 : Int), Value.int IntKind.i64 (65284 : Int), Value.int IntKind.i64 (65285 : Int), Value.int IntKind.i64 (65286 : Int), Value.int IntKind.i64 (65287 : Int), Value.int IntKind.i64 (65295 : Int)] (by kernel_rfl) (by kernel_rfl) (by decide) rfl (by kernel_rfl) (by kernel_rfl) (by kernel_rfl) (by kernel_rfl) fun xb1 => ?_)
      refine Xg.acts (Xg.owes_rd 4 hr (by kernel_rfl) (Xg.owes_rd 4 hr (by kernel_rfl) (Xg.owes_rd 4 hr (by kernel_rfl) (Xg.owes_rd 4 hr (by kernel_rfl) Xg.owes_nil)))) ?_
      rotate_left
      refine Xg.comes_act rfl (by kernel_rfl) (by kernel_rfl) (Xg.opx_callE' [] (fun xx2 => [PoS p σ' a' c' xs', bts a' c' xs', (Drv te), A]) (fun _ => by kernel_rfl) (@Go.Proofs.YtncdmccdclhokaaDoor.pick_d (((l.getD i default).a)) ((nat_lit 8)) (by omega) (by first | rfl | decide | (constructor <;> omega) | (simp; done) | (simp; omega))) (by kernel_rfl) (by kernel_rfl) (by kernel_rfl) fun xx2 xh6 => ?_)
      try dsimp only at xh6
      refine Xg.acts (Xg.owes_skip (by kernel_rfl) (Xg.owes_skip (by kernel_rfl) (Xg.owes_rd 3 hr (by kernel_rfl) (Xg.owes_rd 3 hr (by kernel_rfl) Xg.owes_nil)))) ?_
      rotate_left
      refine Xg.at_seq ?_
      refine Xg.at_region ?_
      refine Xg.ops_op (by kernel_rfl) (Xg.opx_pure (.bool (decide ((((↑xx1 : Int)) : Int) = ((4 : Int))))) rfl (fun _ => by kernel_rfl) ?_)
      refine Xg.ops_op (by kernel_rfl) (Xg.opx_pure ((Value.bool (decide ((↑xx1 : Int) = (4 : Int))))) rfl (fun _ => by kernel_rfl) ?_)
      refine Xg.ops_nil ?_
      refine Xg.at_dec (p := ((↑xx1 : Int) = (4 : Int))) (by kernel_rfl) (fun xh6 => ?_) (fun xh6 => ?_)
      refine Xg.at_region ?_
      refine Xg.ops_op (by kernel_rfl) (Xg.opx_pure ((Value.pointer (some (Addr.mk p (0 : Nat) none)))) rfl (fun _ => by kernel_rfl) ?_)
      refine Xg.ops_op (by kernel_rfl) (Xg.opx_pure ((Value.slice la n lc)) rfl (fun _ => by kernel_rfl) ?_)
      refine Xg.ops_op (by kernel_rfl) (Xg.opx_pure ((Value.int IntKind.i64 (↑i : Int))) rfl (fun _ => by kernel_rfl) ?_)
      refine Xg.ops_op (by kernel_rfl) (Xg.opx_rd 3 (.pointer (some (Addr.mk (Xg.blk la) (offA la + i * (3 : Nat)) none))) rfl hr (by kernel_rfl) (Xg.run_ix_rd (elem := 41) (kd := .i64) (e := ((↑i : Int))) 3 i (offA la + i * (3 : Nat)) (by kernel_rfl) (by kernel_rfl) (by kernel_rfl) (by kernel_rfl) rfl (by omega) (by rw [Xg.recs_len (wd := 3) (fun _ => rfl)]; omega) (by omega)) ?_)
      refine Xg.ops_op (by kernel_rfl) (Xg.opx_pure ((Value.pointer (some (Addr.mk (blk la) (offA la + i * (3 : Nat) + (1 : Nat)) none)))) rfl (fun _ => by kernel_rfl) ?_)
      refine Xg.ops_op (by kernel_rfl) (Xg.opx_rd 3 (Value.int IntKind.i64 (l.getD i default).a) rfl hr (by kernel_rfl) (Xg.run_load_rd (off0 := (offA la + i * (3 : Nat) + (1 : Nat))) (i * (3 : Nat) + (1 : Nat)) (by kernel_rfl) (by omega) (Xg.get_recs' (wd := 3) (fun _ => rfl) default i 1 (by omega) (by decide) (by omega) (by kernel_rfl)) (by kernel_rfl)) ?_)
      refine Xg.ops_op (by kernel_rfl) (Xg.opx_callE' [] (fun xx2 => [PoS p σ' a' c' xs', bts a' c' xs', (Drv te), A]) (fun _ => by kernel_rfl) (@Go.Proofs.YtncdmccdclhokaaDoor.pick_d (((l.getD i default).a)) ((nat_lit 256)) (by omega) (by first | rfl | decide | (constructor <;> omega) | (simp; done) | (simp; omega))) (by kernel_rfl) (by kernel_rfl) (by kernel_rfl) fun xx2 xh7 => ?_)
      try dsimp only at xh7
      refine Xg.ops_op (by kernel_rfl) (Xg.opx_call1' [0] [PoR p (pressed σ' (Po.mk (↑xx2 : Int) σ'.rows σ'.shift σ'.line σ'.counter σ'.timer σ'.again σ'.control σ'.requests σ'.alarm σ'.transfer σ'.sending)) (Value.slice a' xs'.length c'), bts a' c' xs', (Drv te), A] (fun _ => by kernel_rfl) (@Go.Proofs.YtncdmccdclhokaaDoor.press_d (p) (σ') ((Value.slice a' xs'.length c')) (((↑xx2 : Int))) (by omega)) (by kernel_rfl) (by kernel_rfl) (by kernel_rfl) ?_)
      refine Xg.ops_op (by kernel_rfl) (Xg.opx_pure ((Value.int IntKind.i64 (0 : Int))) rfl (fun _ => by kernel_rfl) ?_)
      refine Xg.ops_nil ?_
      refine Xg.at_inBlock ?_
      refine Xg.at_seq ?_
      refine Xg.at_region ?_
      refine Xg.ops_op (by kernel_rfl) (Xg.opx_pure ((Value.int IntKind.i64 (0 : Int))) rfl (fun _ => by kernel_rfl) ?_)
      refine Xg.ops_op (by kernel_rfl) (Xg.opx_pure ((Value.bool false)) rfl (fun _ => by kernel_rfl) ?_)
      refine Xg.ops_nil ?_
      refine Xg.at_false (t := false) (by kernel_rfl) rfl ?_
      refine Xg.at_skip ?_
      refine Xg.at_inBlock ?_
      refine Xg.at_region ?_
      refine Xg.ops_op (by kernel_rfl) (Xg.opx_pure ((Value.int IntKind.i64 (↑i : Int))) rfl (fun _ => by kernel_rfl) ?_)
      refine Xg.ops_op (by kernel_rfl) (Xg.opx_int .i64 (IntKind.wrap .i64 (((↑i : Int) + (1 : Int)))) rfl (fun _ => by kernel_rfl) (Xg.wrap_i64_in (by omega)) ?_)
      refine Xg.ops_op (by kernel_rfl) (Xg.opx_pure ((Value.int IntKind.i64 ((↑i : Int) + (1 : Int)))) rfl (fun _ => by kernel_rfl) ?_)
      refine Xg.ops_nil ?_
      refine Xg.at_inLoop ?_
      rotate_left
      refine Xg.at_region ?_
      refine Xg.ops_op (by kernel_rfl) (Xg.opx_pure ((Value.pointer (some (Addr.mk p (0 : Nat) none)))) rfl (fun _ => by kernel_rfl) ?_)
      refine Xg.ops_op (by kernel_rfl) (Xg.opx_pure ((Value.slice la n lc)) rfl (fun _ => by kernel_rfl) ?_)
      refine Xg.ops_op (by kernel_rfl) (Xg.opx_pure ((Value.int IntKind.i64 (↑i : Int))) rfl (fun _ => by kernel_rfl) ?_)
      refine Xg.ops_op (by kernel_rfl) (Xg.opx_rd 3 (.pointer (some (Addr.mk (Xg.blk la) (offA la + i * (3 : Nat)) none))) rfl hr (by kernel_rfl) (Xg.run_ix_rd (elem := 41) (kd := .i64) (e := ((↑i : Int))) 3 i (offA la + i * (3 : Nat)) (by kernel_rfl) (by kernel_rfl) (by kernel_rfl) (by kernel_rfl) rfl (by omega) (by rw [Xg.recs_len (wd := 3) (fun _ => rfl)]; omega) (by omega)) ?_)
      refine Xg.ops_op (by kernel_rfl) (Xg.opx_pure ((Value.pointer (some (Addr.mk (blk la) (offA la + i * (3 : Nat) + (1 : Nat)) none)))) rfl (fun _ => by kernel_rfl) ?_)
      refine Xg.ops_op (by kernel_rfl) (Xg.opx_rd 3 (Value.int IntKind.i64 (l.getD i default).a) rfl hr (by kernel_rfl) (Xg.run_load_rd (off0 := (offA la + i * (3 : Nat) + (1 : Nat))) (i * (3 : Nat) + (1 : Nat)) (by kernel_rfl) (by omega) (Xg.get_recs' (wd := 3) (fun _ => rfl) default i 1 (by omega) (by decide) (by omega) (by kernel_rfl)) (by kernel_rfl)) ?_)
      refine Xg.ops_op (by kernel_rfl) (Xg.opx_callE' [] (fun xx2 => [PoS p σ' a' c' xs', bts a' c' xs', (Drv te), A]) (fun _ => by kernel_rfl) (@Go.Proofs.YtncdmccdclhokaaDoor.pick_d (((l.getD i default).a)) ((nat_lit 5)) (by omega) (by first | rfl | decide | (constructor <;> omega) | (simp; done) | (simp; omega))) (by kernel_rfl) (by kernel_rfl) (by kernel_rfl) fun xx2 xh7 => ?_)
      try dsimp only at xh7
      refine Xg.ops_op (by kernel_rfl) (Xg.opx_call1' [0] [PoR p (Po.mk σ'.buttons σ'.rows σ'.shift σ'.line σ'.counter σ'.timer σ'.again σ'.control (takeI σ'.requests (↑xx2 : Int)) σ'.alarm σ'.transfer σ'.sending) (Value.slice a' xs'.length c'), bts a' c' xs', (Drv te), A] (fun _ => by kernel_rfl) (@Go.Proofs.YtncdmccdclhokaaDoor.take_d (p) (σ') ((Value.slice a' xs'.length c')) (((↑xx2 : Int))) (by omega)) (by kernel_rfl) (by kernel_rfl) (by kernel_rfl) ?_)
      refine Xg.ops_op (by kernel_rfl) (Xg.opx_pure ((Value.int IntKind.i64 (0 : Int))) rfl (fun _ => by kernel_rfl) ?_)
      refine Xg.ops_nil ?_
      refine Xg.at_inBlock ?_
      refine Xg.at_seq ?_
      refine Xg.at_region ?_
      refine Xg.ops_op (by kernel_rfl) (Xg.opx_pure ((Value.int IntKind.i64 (0 : Int))) rfl (fun _ => by kernel_rfl) ?_)
      refine Xg.ops_op (by kernel_rfl) (Xg.opx_pure ((Value.bool false)) rfl (fun _ => by kernel_rfl) ?_)
      refine Xg.ops_nil ?_
      refine Xg.at_false (t := false) (by kernel_rfl) rfl ?_
      refine Xg.at_skip ?_
      refine Xg.at_inBlock ?_
      refine Xg.at_region ?_
      refine Xg.ops_op (by kernel_rfl) (Xg.opx_pure ((Value.int IntKind.i64 (↑i : Int))) rfl (fun _ => by kernel_rfl) ?_)
      refine Xg.ops_op (by kernel_rfl) (Xg.opx_int .i64 (IntKind.wrap .i64 (((↑i : Int) + (1 : Int)))) rfl (fun _ => by kernel_rfl) (Xg.wrap_i64_in (by omega)) ?_)
      refine Xg.ops_op (by kernel_rfl) (Xg.opx_pure ((Value.int IntKind.i64 ((↑i : Int) + (1 : Int)))) rfl (fun _ => by kernel_rfl) ?_)
      refine Xg.ops_nil ?_
      refine Xg.at_inLoop ?_
      rotate_left
      rotate_left
      rotate_left
      refine Xg.any_each [7] (by kernel_rfl) rfl ⟨?_, trivial⟩
      refine Xg.comes_act rfl (by kernel_rfl) (by kernel_rfl) (Xg.opx_callE' [] (fun xx2 => [row xb1 (3 : TypeId) [Value.int IntKind.i64 (65280 : Int), Value.int IntKind.i64 (65281 : Int), Value.int IntKind.i64 (65282 : Int), Value.int IntKind.i64 (65284 : Int), Value.int IntKind.i64 (65285 : Int), Value.int IntKind.i64 (65286 : Int), Value.int IntKind.i64 (65287 : Int), Value.int IntKind.i64 (65295 : Int)], PoS p σ' a' c' xs', bts a' c' xs', (Drv te), A]) (fun _ => by kernel_rfl) (@Go.Proofs.YtncdmccdclhokaaDoor.pick_d (((l.getD i default).a)) ((nat_lit 8)) (by omega) (by first | rfl | decide | (constructor <;> omega) | (simp; done) | (simp; omega))) (by kernel_rfl) (by kernel_rfl) (by kernel_rfl) fun xx2 xh5 => ?_)
      try dsimp only at xh5
      refine Xg.acts (Xg.owes_rd 4 hr (by kernel_rfl) (Xg.owes_skip (by kernel_rfl) (Xg.owes_skip (by kernel_rfl) (Xg.owes_rd 4 hr (by kernel_rfl) (Xg.owes_rd 4 hr (by kernel_rfl) Xg.owes_nil))))) ?_
      refine Xg.any_pure (.pointer (some (Addr.mk xb1 xx2 none))) 8 (by kernel_rfl) rfl (by kernel_rfl) (by kernel_rfl) (by kernel_rfl) (by kernel_rfl) rfl (Xg.run_ix_slice' (elem := 3) (b := xb1) (off := ((0 : Nat))) (len := ((8 : Nat))) (cap := ((8 : Nat))) (kd := .i64) (e := ((↑xx2 : Int))) 1 xx2 xx2 (by kernel_rfl) (by kernel_rfl) (by kernel_rfl) (by kernel_rfl) rfl (by omega) (by omega)) ?_
      refine Xg.any_each [9, 15] (by kernel_rfl) rfl ⟨?_, ?_, trivial⟩
      refine Xg.comes_act rfl (by kernel_rfl) (by kernel_rfl) (Xg.opx_load (b := xb1) (off := xx2) 0 (Value.int IntKind.i64 ([(65280 : Int), (65281 : Int), (65282 : Int), (65284 : Int), (65285 : Int), (65286 : Int), (65287 : Int), (65295 : Int)].getD xx2 (0 : Int))) rfl (by kernel_rfl) (Xg.get_ints (kd := .i64) (xs := [(65280 : Int), (65281 : Int), (65282 : Int), (65284 : Int), (65285 : Int), (65286 : Int), (65287 : Int), (65295 : Int)]) (by show _ < 8; omega)) (by kernel_rfl) ?_)
      refine Xg.acts (Xg.owes_rd 4 hr (by kernel_rfl) (Xg.owes_skip (by kernel_rfl) (Xg.owes_skip (by kernel_rfl) (Xg.owes_rd 4 hr (by kernel_rfl) (Xg.owes_rd 4 hr (by kernel_rfl) Xg.owes_nil))))) ?_
      rotate_left
      refine Xg.comes_act rfl (by kernel_rfl) (by kernel_rfl) (Xg.opx_callE' [] (fun xx3 => [row xb1 (3 : TypeId) [Value.int IntKind.i64 (65280 : Int), Value.int IntKind.i64 (65281 : Int), Value.int IntKind.i64 (65282 : Int), Value.int IntKind.i64 (65284 : Int), Value.int IntKind.i64 (65285 : Int), Value.int IntKind.i64 (65286 : Int), Value.int IntKind.i64 (65287 : Int), Value.int IntKind.i64 (65295 : Int)], PoS p σ' a' c' xs', bts a' c' xs', (Drv te), A]) (fun _ => by kernel_rfl) (@Go.Proofs.YtncdmccdclhokaaDoor.pick_d (((l.getD i default).b)) ((nat_lit 256)) (by omega) (by first | rfl | decide | (constructor <;> omega) | (simp; done) | (simp; omega))) (by kernel_rfl) (by kernel_rfl) (by kernel_rfl) fun xx3 xh6 => ?_)
      try dsimp only at xh6
      refine Xg.acts (Xg.owes_rd 4 hr (by kernel_rfl) (Xg.owes_skip (by kernel_rfl) (Xg.owes_skip (by kernel_rfl) (Xg.owes_skip (by kernel_rfl) (Xg.owes_skip (by kernel_rfl) Xg.owes_nil))))) ?_
      rotate_left
      refine Xg.any_each [1, 15] (by kernel_rfl) rfl ⟨?_, ?_, trivial⟩
      refine Xg.comes_act rfl (by kernel_rfl) (by kernel_rfl) (Xg.opx_bs (elem := 3) 1 [Value.int IntKind.i64 (65280 : Int), Value.int IntKind.i64 (65281 : Int), Value.int IntKind.i64 (65282 : Int), Value.int IntKind.i64 (65284 : Int), Value.int IntKind.i64 (65285 : Int), Value.int IntKind.i64 (65286 : Int), Value.int IntKind.i64 (65287 : Int), Value.int IntKind.i64 (65295 : Int)] [Value.int IntKind.i64 (65280 : Int), Value.int IntKind.i64 (65281 : Int), Value.int IntKind.i64 (65282 : Int), Value.int IntKind.i64 (65284 : Int), Value.int IntKind.i64 (65285 : Int), Value.int IntKind.i64 (65286 : Int), Value.int IntKind.i64 (65287 : Int), Value.int IntKind.i64 (65295 : Int)] (by kernel_rfl) (by kernel_rfl) (by decide) rfl (by kernel_rfl) (by kernel_rfl) (by kernel_rfl) (by kernel_rfl) fun xb1 => ?_)
      refine Xg.acts (Xg.owes_rd 4 hr (by kernel_rfl) (Xg.owes_rd 4 hr (by kernel_rfl) (Xg.owes_rd 4 hr (by kernel_rfl) (Xg.owes_rd 4 hr (by kernel_rfl) (Xg.owes_rd 4 hr (by kernel_rfl) Xg.owes_nil))))) ?_
      rotate_left
      refine Xg.comes_act rfl (by kernel_rfl) (by kernel_rfl) (Xg.opx_callE' [] (fun xx3 => [PoS p σ' a' c' xs', bts a' c' xs', (Drv te), A]) (fun _ => by kernel_rfl) (@Go.Proofs.YtncdmccdclhokaaDoor.pick_d (((l.getD i default).b)) ((nat_lit 256)) (by omega) (by first | rfl | decide | (constructor <;> omega) | (simp; done) | (simp; omega))) (by kernel_rfl) (by kernel_rfl) (by kernel_rfl) fun xx3 xh6 => ?_)
      try dsimp only at xh6
      refine Xg.acts (Xg.owes_rd 3 hr (by kernel_rfl) (Xg.owes_skip (by kernel_rfl) (Xg.owes_skip (by kernel_rfl) (Xg.owes_skip (by kernel_rfl) (Xg.owes_skip (by kernel_rfl) Xg.owes_nil))))) ?_
      rotate_left
      refine Xg.any_each [7] (by kernel_rfl) rfl ⟨?_, trivial⟩
      refine Xg.comes_act rfl (by kernel_rfl) (by kernel_rfl) (Xg.opx_callE' [] (fun xx2 => [row xb1 (3 : TypeId) [Value.int IntKind.i64 (65280 : Int), Value.int IntKind.i64 (65281 : Int), Value.int IntKind.i64 (65282 : Int), Value.int IntKind.i64 (65284 : Int), Value.int IntKind.i64 (65285 : Int), Value.int IntKind.i64 (65286 : Int), Value.int IntKind.i64 (65287 : Int), Value.int IntKind.i64 (65295 : Int)], PoS p σ' a' c' xs', bts a' c' xs', (Drv te), A]) (fun _ => by kernel_rfl) (@Go.Proofs.YtncdmccdclhokaaDoor.pick_d (((l.getD i default).a)) ((nat_lit 8)) (by omega) (by first | rfl | decide | (constructor <;> omega) | (simp; done) | (simp; omega))) (by kernel_rfl) (by kernel_rfl) (by kernel_rfl) fun xx2 xh6 => ?_)
      try dsimp only at xh6
      refine Xg.acts (Xg.owes_skip (by kernel_rfl) (Xg.owes_skip (by kernel_rfl) (Xg.owes_rd 4 hr (by kernel_rfl) (Xg.owes_rd 4 hr (by kernel_rfl) Xg.owes_nil)))) ?_
      refine Xg.any_pure (.pointer (some (Addr.mk xb1 xx2 none))) 8 (by kernel_rfl) rfl (by kernel_rfl) (by kernel_rfl) (by kernel_rfl) (by kernel_rfl) rfl (Xg.run_ix_slice' (elem := 3) (b := xb1) (off := ((0 : Nat))) (len := ((8 : Nat))) (cap := ((8 : Nat))) (kd := .i64) (e := ((↑xx2 : Int))) 1 xx2 xx2 (by kernel_rfl) (by kernel_rfl) (by kernel_rfl) (by kernel_rfl) rfl (by omega) (by omega)) ?_
      refine Xg.any_each [9, 15] (by kernel_rfl) rfl ⟨?_, ?_, trivial⟩
      refine Xg.comes_act rfl (by kernel_rfl) (by kernel_rfl) (Xg.opx_load (b := xb1) (off := xx2) 0 (Value.int IntKind.i64 ([(65280 : Int), (65281 : Int), (65282 : Int), (65284 : Int), (65285 : Int), (65286 : Int), (65287 : Int), (65295 : Int)].getD xx2 (0 : Int))) rfl (by kernel_rfl) (Xg.get_ints (kd := .i64) (xs := [(65280 : Int), (65281 : Int), (65282 : Int), (65284 : Int), (65285 : Int), (65286 : Int), (65287 : Int), (65295 : Int)]) (by show _ < 8; omega)) (by kernel_rfl) ?_)
      refine Xg.acts (Xg.owes_skip (by kernel_rfl) (Xg.owes_skip (by kernel_rfl) (Xg.owes_rd 4 hr (by kernel_rfl) (Xg.owes_rd 4 hr (by kernel_rfl) Xg.owes_nil)))) ?_
      rotate_left
      refine Xg.comes_act rfl (by kernel_rfl) (by kernel_rfl) (Xg.opx_callE' [] (fun xx3 => [row xb1 (3 : TypeId) [Value.int IntKind.i64 (65280 : Int), Value.int IntKind.i64 (65281 : Int), Value.int IntKind.i64 (65282 : Int), Value.int IntKind.i64 (65284 : Int), Value.int IntKind.i64 (65285 : Int), Value.int IntKind.i64 (65286 : Int), Value.int IntKind.i64 (65287 : Int), Value.int IntKind.i64 (65295 : Int)], PoS p σ' a' c' xs', bts a' c' xs', (Drv te), A]) (fun _ => by kernel_rfl) (@Go.Proofs.YtncdmccdclhokaaDoor.pick_d (((l.getD i default).b)) ((nat_lit 256)) (by omega) (by first | rfl | decide | (constructor <;> omega) | (simp; done) | (simp; omega))) (by kernel_rfl) (by kernel_rfl) (by kernel_rfl) fun xx3 xh7 => ?_)
      try dsimp only at xh7
      refine Xg.acts (Xg.owes_skip (by kernel_rfl) (Xg.owes_skip (by kernel_rfl) (Xg.owes_skip (by kernel_rfl) (Xg.owes_skip (by kernel_rfl) Xg.owes_nil)))) ?_
      rotate_left
      refine Xg.any_each [1, 15] (by kernel_rfl) rfl ⟨?_, ?_, trivial⟩
      refine Xg.comes_act rfl (by kernel_rfl) (by kernel_rfl) (Xg.opx_bs (elem := 3) 1 [Value.int IntKind.i64 (65280 : Int), Value.int IntKind.i64 (65281 : Int), Value.int IntKind.i64 (65282 : Int), Value.int IntKind.i64 (65284 : Int), Value.int IntKind.i64 (65285 : Int), Value.int IntKind.i64 (65286 : Int), Value.int IntKind.i64 (65287 : Int), Value.int IntKind.i64 (65295 : Int)] [Value.int IntKind.i64 (65280 : Int), Value.int IntKind.i64 (65281 : Int), Value.int IntKind.i64 (65282 : Int), Value.int IntKind.i64 (65284 : Int), Value.int IntKind.i64 (65285 : Int), Value.int IntKind.i64 (65286 : Int), Value.int IntKind.i64 (65287 : Int), Value.int IntKind.i64 (65295 : Int)] (by kernel_rfl) (by kernel_rfl) (by decide) rfl (by kernel_rfl) (by kernel_rfl) (by kernel_rfl) (by kernel_rfl) fun xb1 => ?_)
      refine Xg.acts (Xg.owes_rd 4 hr (by kernel_rfl) (Xg.owes_rd 4 hr (by kernel_rfl) (Xg.owes_rd 4 hr (by kernel_rfl) (Xg.owes_rd 4 hr (by kernel_rfl) Xg.owes_nil)))) ?_
      rotate_left
      refine Xg.comes_act rfl (by kernel_rfl) (by kernel_rfl) (Xg.opx_callE' [] (fun xx3 => [PoS p σ' a' c' xs', bts a' c' xs', (Drv te), A]) (fun _ => by kernel_rfl) (@Go.Proofs.YtncdmccdclhokaaDoor.pick_d (((l.getD i default).b)) ((nat_lit 256)) (by omega) (by first | rfl | decide | (constructor <;> omega) | (simp; done) | (simp; omega))) (by kernel_rfl) (by kernel_rfl) (by kernel_rfl) fun xx3 xh7 => ?_)
      try dsimp only at xh7
      refine Xg.acts (Xg.owes_skip (by kernel_rfl) (Xg.owes_skip (by kernel_rfl) (Xg.owes_skip (by kernel_rfl) (Xg.owes_skip (by kernel_rfl) Xg.owes_nil)))) ?_
      rotate_left
      rotate_left
      rotate_left
      rotate_left
      rotate_left
      refine Xg.any_each [15] (by kernel_rfl) rfl ⟨?_, trivial⟩
      refine Xg.comes_act rfl (by kernel_rfl) (by kernel_rfl) (Xg.opx_callE' [] (fun xx3 => [row xb1 (3 : TypeId) [Value.int IntKind.i64 (65280 : Int), Value.int IntKind.i64 (65281 : Int), Value.int IntKind.i64 (65282 : Int), Value.int IntKind.i64 (65284 : Int), Value.int IntKind.i64 (65285 : Int), Value.int IntKind.i64 (65286 : Int), Value.int IntKind.i64 (65287 : Int), Value.int IntKind.i64 (65295 : Int)], PoS p σ' a' c' xs', bts a' c' xs', (Drv te), A]) (fun _ => by kernel_rfl) (@Go.Proofs.YtncdmccdclhokaaDoor.pick_d (((l.getD i default).b)) ((nat_lit 256)) (by omega) (by first | rfl | decide | (constructor <;> omega) | (simp; done) | (simp; omega))) (by kernel_rfl) (by kernel_rfl) (by kernel_rfl) fun xx3 xh6 => ?_)
      try dsimp only at xh6
      refine Xg.acts (Xg.owes_rd 4 hr (by kernel_rfl) (Xg.owes_skip (by kernel_rfl) (Xg.owes_skip (by kernel_rfl) (Xg.owes_skip (by kernel_rfl) (Xg.owes_skip (by kernel_rfl) Xg.owes_nil))))) ?_
      refine Xg.any_each [16] (by kernel_rfl) rfl ⟨?_, trivial⟩
      refine Xg.comes_act rfl (by kernel_rfl) (by kernel_rfl) (Xg.opx_call1' [1, 3] [PoR p (wrI xx2 σ' (↑xx3 : Int)) (Value.slice a' xs'.length c'), (Drv te), row xb1 (3 : TypeId) [Value.int IntKind.i64 (65280 : Int), Value.int IntKind.i64 (65281 : Int), Value.int IntKind.i64 (65282 : Int), Value.int IntKind.i64 (65284 : Int), Value.int IntKind.i64 (65285 : Int), Value.int IntKind.i64 (65286 : Int), Value.int IntKind.i64 (65287 : Int), Value.int IntKind.i64 (65295 : Int)], bts a' c' xs', A] (fun _ => by kernel_rfl) (@Go.Proofs.YtncdmccdclhokaaDoor.write_any (te) (p) (σ') ((Value.slice a' xs'.length c')) (xx2) (by omega) (((↑xx3 : Int))) (by omega)) (by kernel_rfl) (by kernel_rfl) (by kernel_rfl) ?_)
      refine Xg.acts (Xg.owes_skip (by kernel_rfl) (Xg.owes_skip (by kernel_rfl) (Xg.owes_skip (by kernel_rfl) (Xg.owes_skip (by kernel_rfl) (Xg.owes_skip (by kernel_rfl) Xg.owes_nil))))) ?_
      refine Xg.any_pure ((Value.int IntKind.i64 (0 : Int))) 17 (by kernel_rfl) rfl (by kernel_rfl) (by kernel_rfl) (by kernel_rfl) (by kernel_rfl) rfl (fun _ => by kernel_rfl) ?_
      refine Xg.any_nil (by kernel_rfl) ?_
      refine Xg.at_inBlock ?_
      refine Xg.at_seq ?_
      refine Xg.at_region ?_
      refine Xg.ops_op (by kernel_rfl) (Xg.opx_pure ((Value.int IntKind.i64 (0 : Int))) rfl (fun _ => by kernel_rfl) ?_)
      refine Xg.ops_op (by kernel_rfl) (Xg.opx_pure ((Value.bool false)) rfl (fun _ => by kernel_rfl) ?_)
      refine Xg.ops_nil ?_
      refine Xg.at_false (t := false) (by kernel_rfl) rfl ?_
      refine Xg.at_skip ?_
      refine Xg.at_inBlock ?_
      refine Xg.at_region ?_
      refine Xg.ops_op (by kernel_rfl) (Xg.opx_pure ((Value.int IntKind.i64 (↑i : Int))) rfl (fun _ => by kernel_rfl) ?_)
      refine Xg.ops_op (by kernel_rfl) (Xg.opx_int .i64 (IntKind.wrap .i64 (((↑i : Int) + (1 : Int)))) rfl (fun _ => by kernel_rfl) (Xg.wrap_i64_in (by omega)) ?_)
      refine Xg.ops_op (by kernel_rfl) (Xg.opx_pure ((Value.int IntKind.i64 ((↑i : Int) + (1 : Int)))) rfl (fun _ => by kernel_rfl) ?_)
      refine Xg.ops_nil ?_
      refine Xg.at_inLoop ?_
      rotate_left
      refine Xg.any_each [9] (by kernel_rfl) rfl ⟨?_, trivial⟩
      refine Xg.comes_act rfl (by kernel_rfl) (by kernel_rfl) (Xg.opx_load (b := xb1) (off := xx2) 0 (Value.int IntKind.i64 ([(65280 : Int), (65281 : Int), (65282 : Int), (65284 : Int), (65285 : Int), (65286 : Int), (65287 : Int), (65295 : Int)].getD xx2 (0 : Int))) rfl (by kernel_rfl) (Xg.get_ints (kd := .i64) (xs := [(65280 : Int), (65281 : Int), (65282 : Int), (65284 : Int), (65285 : Int), (65286 : Int), (65287 : Int), (65295 : Int)]) (by show _ < 8; omega)) (by kernel_rfl) ?_)
      refine Xg.acts (Xg.owes_rd 4 hr (by kernel_rfl) (Xg.owes_skip (by kernel_rfl) (Xg.owes_skip (by kernel_rfl) (Xg.owes_rd 4 hr (by kernel_rfl) (Xg.owes_rd 4 hr (by kernel_rfl) Xg.owes_nil))))) ?_
      refine Xg.any_each [16] (by kernel_rfl) rfl ⟨?_, trivial⟩
      refine Xg.comes_act rfl (by kernel_rfl) (by kernel_rfl) (Xg.opx_call1' [1, 3] [PoR p (wrI xx2 σ' (↑xx3 : Int)) (Value.slice a' xs'.length c'), (Drv te), row xb1 (3 : TypeId) [Value.int IntKind.i64 (65280 : Int), Value.int IntKind.i64 (65281 : Int), Value.int IntKind.i64 (65282 : Int), Value.int IntKind.i64 (65284 : Int), Value.int IntKind.i64 (65285 : Int), Value.int IntKind.i64 (65286 : Int), Value.int IntKind.i64 (65287 : Int), Value.int IntKind.i64 (65295 : Int)], bts a' c' xs', A] (fun _ => by kernel_rfl) (@Go.Proofs.YtncdmccdclhokaaDoor.write_any (te) (p) (σ') ((Value.slice a' xs'.length c')) (xx2) (by omega) (((↑xx3 : Int))) (by omega)) (by kernel_rfl) (by kernel_rfl) (by kernel_rfl) ?_)
      refine Xg.acts (Xg.owes_skip (by kernel_rfl) (Xg.owes_skip (by kernel_rfl) (Xg.owes_skip (by kernel_rfl) (Xg.owes_skip (by kernel_rfl) (Xg.owes_skip (by kernel_rfl) Xg.owes_nil))))) ?_
      refine Xg.any_pure ((Value.int IntKind.i64 (0 : Int))) 17 (by kernel_rfl) rfl (by kernel_rfl) (by kernel_rfl) (by kernel_rfl) (by kernel_rfl) rfl (fun _ => by kernel_rfl) ?_
      refine Xg.any_nil (by kernel_rfl) ?_
      refine Xg.at_inBlock ?_
      refine Xg.at_seq ?_
      refine Xg.at_region ?_
      refine Xg.ops_op (by kernel_rfl) (Xg.opx_pure ((Value.int IntKind.i64 (0 : Int))) rfl (fun _ => by kernel_rfl) ?_)
      refine Xg.ops_op (by kernel_rfl) (Xg.opx_pure ((Value.bool false)) rfl (fun _ => by kernel_rfl) ?_)
      refine Xg.ops_nil ?_
      refine Xg.at_false (t := false) (by kernel_rfl) rfl ?_
      refine Xg.at_skip ?_
      refine Xg.at_inBlock ?_
      refine Xg.at_region ?_
      refine Xg.ops_op (by kernel_rfl) (Xg.opx_pure ((Value.int IntKind.i64 (↑i : Int))) rfl (fun _ => by kernel_rfl) ?_)
      refine Xg.ops_op (by kernel_rfl) (Xg.opx_int .i64 (IntKind.wrap .i64 (((↑i : Int) + (1 : Int)))) rfl (fun _ => by kernel_rfl) (Xg.wrap_i64_in (by omega)) ?_)
      refine Xg.ops_op (by kernel_rfl) (Xg.opx_pure ((Value.int IntKind.i64 ((↑i : Int) + (1 : Int)))) rfl (fun _ => by kernel_rfl) ?_)
      refine Xg.ops_nil ?_
      refine Xg.at_inLoop ?_
      rotate_left
      refine Xg.any_pure (.pointer (some (Addr.mk xb1 xx2 none))) 8 (by kernel_rfl) rfl (by kernel_rfl) (by kernel_rfl) (by kernel_rfl) (by kernel_rfl) rfl (Xg.run_ix_slice' (elem := 3) (b := xb1) (off := ((0 : Nat))) (len := ((8 : Nat))) (cap := ((8 : Nat))) (kd := .i64) (e := ((↑xx2 : Int))) 1 xx2 xx2 (by kernel_rfl) (by kernel_rfl) (by kernel_rfl) (by kernel_rfl) rfl (by omega) (by omega)) ?_
      refine Xg.any_each [9, 15] (by kernel_rfl) rfl ⟨?_, ?_, trivial⟩
      refine Xg.comes_act rfl (by kernel_rfl) (by kernel_rfl) (Xg.opx_load (b := xb1) (off := xx2) 0 (Value.int IntKind.i64 ([(65280 : Int), (65281 : Int), (65282 : Int), (65284 : Int), (65285 : Int), (65286 : Int), (65287 : Int), (65295 : Int)].getD xx2 (0 : Int))) rfl (by kernel_rfl) (Xg.get_ints (kd := .i64) (xs := [(65280 : Int), (65281 : Int), (65282 : Int), (65284 : Int), (65285 : Int), (65286 : Int), (65287 : Int), (65295 : Int)]) (by show _ < 8; omega)) (by kernel_rfl) ?_)
      refine Xg.acts (Xg.owes_rd 4 hr (by kernel_rfl) (Xg.owes_skip (by kernel_rfl) (Xg.owes_skip (by kernel_rfl) (Xg.owes_rd 4 hr (by kernel_rfl) (Xg.owes_rd 4 hr (by kernel_rfl) Xg.owes_nil))))) ?_
      rotate_left
      refine Xg.comes_act rfl (by kernel_rfl) (by kernel_rfl) (Xg.opx_callE' [] (fun xx3 => [row xb1 (3 : TypeId) [Value.int IntKind.i64 (65280 : Int), Value.int IntKind.i64 (65281 : Int), Value.int IntKind.i64 (65282 : Int), Value.int IntKind.i64 (65284 : Int), Value.int IntKind.i64 (65285 : Int), Value.int IntKind.i64 (65286 : Int), Value.int IntKind.i64 (65287 : Int), Value.int IntKind.i64 (65295 : Int)], PoS p σ' a' c' xs', bts a' c' xs', (Drv te), A]) (fun _ => by kernel_rfl) (@Go.Proofs.YtncdmccdclhokaaDoor.pick_d (((l.getD i default).b)) ((nat_lit 256)) (by omega) (by first | rfl | decide | (constructor <;> omega) | (simp; done) | (simp; omega))) (by kernel_rfl) (by kernel_rfl) (by kernel_rfl) fun xx3 xh6 => ?_)
      try dsimp only at xh6
      refine Xg.acts (Xg.owes_rd 4 hr (by kernel_rfl) (Xg.owes_skip (by kernel_rfl) (Xg.owes_skip (by kernel_rfl) (Xg.owes_skip (by kernel_rfl) (Xg.owes_skip (by kernel_rfl) Xg.owes_nil))))) ?_
      rotate_left
      refine Xg.any_each [1] (by kernel_rfl) rfl ⟨?_, trivial⟩
      refine Xg.comes_act rfl (by kernel_rfl) (by kernel_rfl) (Xg.opx_bs (elem := 3) 1 [Value.int IntKind.i64 (65280 : Int), Value.int IntKind.i64 (65281 : Int), Value.int IntKind.i64 (65282 : Int), Value.int IntKind.i64 (65284 : Int), Value.int IntKind.i64 (65285 : Int), Value.int IntKind.i64 (65286 : Int), Value.int IntKind.i64 (65287 : Int), Value.int IntKind.i64 (65295 : Int)] [Value.int IntKind.i64 (65280 : Int), Value.int IntKind.i64 (65281 : Int), Value.int IntKind.i64 (65282 : Int), Value.int IntKind.i64 (65284 : Int), Value.int IntKind.i64 (65285 : Int), Value.int IntKind.i64 (65286 : Int), Value.int IntKind.i64 (65287 : Int), Value.int IntKind.i64 (65295 : Int)] (by kernel_rfl) (by kernel_rfl) (by decide) rfl (by kernel_rfl) (by kernel_rfl) (by kernel_rfl) (by kernel_rfl) fun xb1 => ?_)
      refine Xg.acts (Xg.owes_rd 4 hr (by kernel_rfl) (Xg.owes_rd 4 hr (by kernel_rfl) (Xg.owes_rd 4 hr (by kernel_rfl) (Xg.owes_rd 4 hr (by kernel_rfl) (Xg.owes_rd 4 hr (by kernel_rfl) Xg.owes_nil))))) ?_
      refine Xg.any_pure (.pointer (some (Addr.mk xb1 xx2 none))) 8 (by kernel_rfl) rfl (by kernel_rfl) (by kernel_rfl) (by kernel_rfl) (by kernel_rfl) rfl (Xg.run_ix_slice' (elem := 3) (b := xb1) (off := ((0 : Nat))) (len := ((8 : Nat))) (cap := ((8 : Nat))) (kd := .i64) (e := ((↑xx2 : Int))) 1 xx2 xx2 (by kernel_rfl) (by kernel_rfl) (by kernel_rfl) (by kernel_rfl) rfl (by omega) (by omega)) ?_
      refine Xg.any_each [9] (by kernel_rfl) rfl ⟨?_, trivial⟩
      refine Xg.comes_act rfl (by kernel_rfl) (by kernel_rfl) (Xg.opx_load (b := xb1) (off := xx2) 0 (Value.int IntKind.i64 ([(65280 : Int), (65281 : Int), (65282 : Int), (65284 : Int), (65285 : Int), (65286 : Int), (65287 : Int), (65295 : Int)].getD xx2 (0 : Int))) rfl (by kernel_rfl) (Xg.get_ints (kd := .i64) (xs := [(65280 : Int), (65281 : Int), (65282 : Int), (65284 : Int), (65285 : Int), (65286 : Int), (65287 : Int), (65295 : Int)]) (by show _ < 8; omega)) (by kernel_rfl) ?_)
      refine Xg.acts (Xg.owes_rd 4 hr (by kernel_rfl) (Xg.owes_skip (by kernel_rfl) (Xg.owes_skip (by kernel_rfl) (Xg.owes_rd 4 hr (by kernel_rfl) (Xg.owes_rd 4 hr (by kernel_rfl) Xg.owes_nil))))) ?_
      refine Xg.any_each [16] (by kernel_rfl) rfl ⟨?_, trivial⟩
      refine Xg.comes_act rfl (by kernel_rfl) (by kernel_rfl) (Xg.opx_call1' [1, 3] [PoR p (wrI xx2 σ' (↑xx3 : Int)) (Value.slice a' xs'.length c'), (Drv te), row xb1 (3 : TypeId) [Value.int IntKind.i64 (65280 : Int), Value.int IntKind.i64 (65281 : Int), Value.int IntKind.i64 (65282 : Int), Value.int IntKind.i64 (65284 : Int), Value.int IntKind.i64 (65285 : Int), Value.int IntKind.i64 (65286 : Int), Value.int IntKind.i64 (65287 : Int), Value.int IntKind.i64 (65295 : Int)], bts a' c' xs', A] (fun _ => by kernel_rfl) (@Go.Proofs.YtncdmccdclhokaaDoor.write_any (te) (p) (σ') ((Value.slice a' xs'.length c')) (xx2) (by omega) (((↑xx3 : Int))) (by omega)) (by kernel_rfl) (by kernel_rfl) (by kernel_rfl) ?_)
      refine Xg.acts (Xg.owes_skip (by kernel_rfl) (Xg.owes_skip (by kernel_rfl) (Xg.owes_skip (by kernel_rfl) (Xg.owes_skip (by kernel_rfl) (Xg.owes_skip (by kernel_rfl) Xg.owes_nil))))) ?_
      refine Xg.any_pure ((Value.int IntKind.i64 (0 : Int))) 17 (by kernel_rfl) rfl (by kernel_rfl) (by kernel_rfl) (by kernel_rfl) (by kernel_rfl) rfl (fun _ => by kernel_rfl) ?_
      refine Xg.any_nil (by kernel_rfl) ?_
      refine Xg.at_inBlock ?_
      refine Xg.at_seq ?_
      refine Xg.at_region ?_
      refine Xg.ops_op (by kernel_rfl) (Xg.opx_pure ((Value.int IntKind.i64 (0 : Int))) rfl (fun _ => by kernel_rfl) ?_)
      refine Xg.ops_op (by kernel_rfl) (Xg.opx_pure ((Value.bool false)) rfl (fun _ => by kernel_rfl) ?_)
      refine Xg.ops_nil ?_
      refine Xg.at_false (t := false) (by kernel_rfl) rfl ?_
      refine Xg.at_skip ?_
      refine Xg.at_inBlock ?_
      refine Xg.at_region ?_
      refine Xg.ops_op (by kernel_rfl) (Xg.opx_pure ((Value.int IntKind.i64 (↑i : Int))) rfl (fun _ => by kernel_rfl) ?_)
      refine Xg.ops_op (by kernel_rfl) (Xg.opx_int .i64 (IntKind.wrap .i64 (((↑i : Int) + (1 : Int)))) rfl (fun _ => by kernel_rfl) (Xg.wrap_i64_in (by omega)) ?_)
      refine Xg.ops_op (by kernel_rfl) (Xg.opx_pure ((Value.int IntKind.i64 ((↑i : Int) + (1 : Int)))) rfl (fun _ => by kernel_rfl) ?_)
      refine Xg.ops_nil ?_
      refine Xg.at_inLoop ?_
      rotate_left
      refine Xg.any_each [15] (by kernel_rfl) rfl ⟨?_, trivial⟩
      refine Xg.comes_act rfl (by kernel_rfl) (by kernel_rfl) (Xg.opx_callE' [] (fun xx3 => [row xb1 (3 : TypeId) [Value.int IntKind.i64 (65280 : Int), Value.int IntKind.i64 (65281 : Int), Value.int IntKind.i64 (65282 : Int), Value.int IntKind.i64 (65284 : Int), Value.int IntKind.i64 (65285 : Int), Value.int IntKind.i64 (65286 : Int), Value.int IntKind.i64 (65287 : Int), Value.int IntKind.i64 (65295 : Int)], PoS p σ' a' c' xs', bts a' c' xs', (Drv te), A]) (fun _ => by kernel_rfl) (@Go.Proofs.YtncdmccdclhokaaDoor.pick_d (((l.getD i default).b)) ((nat_lit 256)) (by omega) (by first | rfl | decide | (constructor <;> omega) | (simp; done) | (simp; omega))) (by kernel_rfl) (by kernel_rfl) (by kernel_rfl) fun xx3 xh7 => ?_)
      try dsimp only at xh7
      refine Xg.acts (Xg.owes_skip (by kernel_rfl) (Xg.owes_skip (by kernel_rfl) (Xg.owes_skip (by kernel_rfl) (Xg.owes_skip (by kernel_rfl) Xg.owes_nil)))) ?_
      refine Xg.any_each [16] (by kernel_rfl) rfl ⟨?_, trivial⟩
      refine Xg.comes_act rfl (by kernel_rfl) (by kernel_rfl) (Xg.opx_call1' [1, 3] [PoR p (wrI xx2 σ' (↑xx3 : Int)) (Value.slice a' xs'.length c'), (Drv te), row xb1 (3 : TypeId) [Value.int IntKind.i64 (65280 : Int), Value.int IntKind.i64 (65281 : Int), Value.int IntKind.i64 (65282 : Int), Value.int IntKind.i64 (65284 : Int), Value.int IntKind.i64 (65285 : Int), Value.int IntKind.i64 (65286 : Int), Value.int IntKind.i64 (65287 : Int), Value.int IntKind.i64 (65295 : Int)], bts a' c' xs', A] (fun _ => by kernel_rfl) (@Go.Proofs.YtncdmccdclhokaaDoor.write_any (te) (p) (σ') ((Value.slice a' xs'.length c')) (xx2) (by omega) (((↑xx3 : Int))) (by omega)) (by kernel_rfl) (by kernel_rfl) (by kernel_rfl) ?_)
      refine Xg.acts (Xg.owes_skip (by kernel_rfl) (Xg.owes_skip (by kernel_rfl) (Xg.owes_skip (by kernel_rfl) (Xg.owes_skip (by kernel_rfl) Xg.owes_nil)))) ?_
      refine Xg.any_pure ((Value.int IntKind.i64 (0 : Int))) 17 (by kernel_rfl) rfl (by kernel_rfl) (by kernel_rfl) (by kernel_rfl) (by kernel_rfl) rfl (fun _ => by kernel_rfl) ?_
      refine Xg.any_nil (by kernel_rfl) ?_
      refine Xg.at_inBlock ?_
      refine Xg.at_seq ?_
      refine Xg.at_region ?_
      refine Xg.ops_op (by kernel_rfl) (Xg.opx_pure ((Value.int IntKind.i64 (0 : Int))) rfl (fun _ => by kernel_rfl) ?_)
      refine Xg.ops_op (by kernel_rfl) (Xg.opx_pure ((Value.bool false)) rfl (fun _ => by kernel_rfl) ?_)
      refine Xg.ops_nil ?_
      refine Xg.at_false (t := false) (by kernel_rfl) rfl ?_
      refine Xg.at_skip ?_
      refine Xg.at_inBlock ?_
      refine Xg.at_region ?_
      refine Xg.ops_op (by kernel_rfl) (Xg.opx_pure ((Value.int IntKind.i64 (↑i : Int))) rfl (fun _ => by kernel_rfl) ?_)
      refine Xg.ops_op (by kernel_rfl) (Xg.opx_int .i64 (IntKind.wrap .i64 (((↑i : Int) + (1 : Int)))) rfl (fun _ => by kernel_rfl) (Xg.wrap_i64_in (by omega)) ?_)
      refine Xg.ops_op (by kernel_rfl) (Xg.opx_pure ((Value.int IntKind.i64 ((↑i : Int) + (1 : Int)))) rfl (fun _ => by kernel_rfl) ?_)
      refine Xg.ops_nil ?_
      refine Xg.at_inLoop ?_
      rotate_left
      refine Xg.any_each [9] (by kernel_rfl) rfl ⟨?_, trivial⟩
      refine Xg.comes_act rfl (by kernel_rfl) (by kernel_rfl) (Xg.opx_load (b := xb1) (off := xx2) 0 (Value.int IntKind.i64 ([(65280 : Int), (65281 : Int), (65282 : Int), (65284 : Int), (65285 : Int), (65286 : Int), (65287 : Int), (65295 : Int)].getD xx2 (0 : Int))) rfl (by kernel_rfl) (Xg.get_ints (kd := .i64) (xs := [(65280 : Int), (65281 : Int), (65282 : Int), (65284 : Int), (65285 : Int), (65286 : Int), (65287 : Int), (65295 : Int)]) (by show _ < 8; omega)) (by kernel_rfl) ?_)
      refine Xg.acts (Xg.owes_skip (by kernel_rfl) (Xg.owes_skip (by kernel_rfl) (Xg.owes_rd 4 hr (by kernel_rfl) (Xg.owes_rd 4 hr (by kernel_rfl) Xg.owes_nil)))) ?_
      refine Xg.any_each [16] (by kernel_rfl) rfl ⟨?_, trivial⟩
      refine Xg.comes_act rfl (by kernel_rfl) (by kernel_rfl) (Xg.opx_call1' [1, 3] [PoR p (wrI xx2 σ' (↑xx3 : Int)) (Value.slice a' xs'.length c'), (Drv te), row xb1 (3 : TypeId) [Value.int IntKind.i64 (65280 : Int), Value.int IntKind.i64 (65281 : Int), Value.int IntKind.i64 (65282 : Int), Value.int IntKind.i64 (65284 : Int), Value.int IntKind.i64 (65285 : Int), Value.int IntKind.i64 (65286 : Int), Value.int IntKind.i64 (65287 : Int), Value.int IntKind.i64 (65295 : Int)], bts a' c' xs', A] (fun _ => by kernel_rfl) (@Go.Proofs.YtncdmccdclhokaaDoor.write_any (te) (p) (σ') ((Value.slice a' xs'.length c')) (xx2) (by omega) (((↑xx3 : Int))) (by omega)) (by kernel_rfl) (by kernel_rfl) (by kernel_rfl) ?_)
      refine Xg.acts (Xg.owes_skip (by kernel_rfl) (Xg.owes_skip (by kernel_rfl) (Xg.owes_skip (by kernel_rfl) (Xg.owes_skip (by kernel_rfl) Xg.owes_nil)))) ?_
      refine Xg.any_pure ((Value.int IntKind.i64 (0 : Int))) 17 (by kernel_rfl) rfl (by kernel_rfl) (by kernel_rfl) (by kernel_rfl) (by kernel_rfl) rfl (fun _ => by kernel_rfl) ?_
      refine Xg.any_nil (by kernel_rfl) ?_
      refine Xg.at_inBlock ?_
      refine Xg.at_seq ?_
      refine Xg.at_region ?_
      refine Xg.ops_op (by kernel_rfl) (Xg.opx_pure ((Value.int IntKind.i64 (0 : Int))) rfl (fun _ => by kernel_rfl) ?_)
      refine Xg.ops_op (by kernel_rfl) (Xg.opx_pure ((Value.bool false)) rfl (fun _ => by kernel_rfl) ?_)
      refine Xg.ops_nil ?_
      refine Xg.at_false (t := false) (by kernel_rfl) rfl ?_
      refine Xg.at_skip ?_
      refine Xg.at_inBlock ?_
      refine Xg.at_region ?_
      refine Xg.ops_op (by kernel_rfl) (Xg.opx_pure ((Value.int IntKind.i64 (↑i : Int))) rfl (fun _ => by kernel_rfl) ?_)
      refine Xg.ops_op (by kernel_rfl) (Xg.opx_int .i64 (IntKind.wrap .i64 (((↑i : Int) + (1 : Int)))) rfl (fun _ => by kernel_rfl) (Xg.wrap_i64_in (by omega)) ?_)
      refine Xg.ops_op (by kernel_rfl) (Xg.opx_pure ((Value.int IntKind.i64 ((↑i : Int) + (1 : Int)))) rfl (fun _ => by kernel_rfl) ?_)
      refine Xg.ops_nil ?_
      refine Xg.at_inLoop ?_
      rotate_left
      refine Xg.any_pure (.pointer (some (Addr.mk xb1 xx2 none))) 8 (by kernel_rfl) rfl (by kernel_rfl) (by kernel_rfl) (by kernel_rfl) (by kernel_rfl) rfl (Xg.run_ix_slice' (elem := 3) (b := xb1) (off := ((0 : Nat))) (len := ((8 : Nat))) (cap := ((8 : Nat))) (kd := .i64) (e := ((↑xx2 : Int))) 1 xx2 xx2 (by kernel_rfl) (by kernel_rfl) (by kernel_rfl) (by kernel_rfl) rfl (by omega) (by omega)) ?_
      refine Xg.any_each [9, 15] (by kernel_rfl) rfl ⟨?_, ?_, trivial⟩
      refine Xg.comes_act rfl (by kernel_rfl) (by kernel_rfl) (Xg.opx_load (b := xb1) (off := xx2) 0 (Value.int IntKind.i64 ([(65280 : Int), (65281 : Int), (65282 : Int), (65284 : Int), (65285 : Int), (65286 : Int), (65287 : Int), (65295 : Int)].getD xx2 (0 : Int))) rfl (by kernel_rfl) (Xg.get_ints (kd := .i64) (xs := [(65280 : Int), (65281 : Int), (65282 : Int), (65284 : Int), (65285 : Int), (65286 : Int), (65287 : Int), (65295 : Int)]) (by show _ < 8; omega)) (by kernel_rfl) ?_)
      refine Xg.acts (Xg.owes_skip (by kernel_rfl) (Xg.owes_skip (by kernel_rfl) (Xg.owes_rd 4 hr (by kernel_rfl) (Xg.owes_rd 4 hr (by kernel_rfl) Xg.owes_nil)))) ?_
      rotate_left
      refine Xg.comes_act rfl (by kernel_rfl) (by kernel_rfl) (Xg.opx_callE' [] (fun xx3 => [row xb1 (3 : TypeId) [Value.int IntKind.i64 (65280 : Int), Value.int IntKind.i64 (65281 : Int), Value.int IntKind.i64 (65282 : Int), Value.int IntKind.i64 (65284 : Int), Value.int IntKind.i64 (65285 : Int), Value.int IntKind.i64 (65286 : Int), Value.int IntKind.i64 (65287 : Int), Value.int IntKind.i64 (65295 : Int)], PoS p σ' a' c' xs', bts a' c' xs', (Drv te), A]) (fun _ => by kernel_rfl) (@Go.Proofs.YtncdmccdclhokaaDoor.pick_d (((l.getD i default).b)) ((nat_lit 256)) (by omega) (by first | rfl | decide | (constructor <;> omega) | (simp; done) | (simp; omega))) (by kernel_rfl) (by kernel_rfl) (by kernel_rfl) fun xx3 xh7 => ?_)
      try dsimp only at xh7
      refine Xg.acts (Xg.owes_skip (by kernel_rfl) (Xg.owes_skip (by kernel_rfl) (Xg.owes_skip (by kernel_rfl) (Xg.owes_skip (by kernel_rfl) Xg.owes_nil)))) ?_
      rotate_left
      refine Xg.any_each [1] (by kernel_rfl) rfl ⟨?_, trivial⟩
      refine Xg.comes_act rfl (by kernel_rfl) (by kernel_rfl) (Xg.opx_bs (elem := 3) 1 [Value.int IntKind.i64 (65280 : Int), Value.int IntKind.i64 (65281 : Int), Value.int IntKind.i64 (65282 : Int), Value.int IntKind.i64 (65284 : Int), Value.int IntKind.i64 (65285 : Int), Value.int IntKind.i64 (65286 : Int), Value.int IntKind.i64 (65287 : Int), Value.int IntKind.i64 (65295 : Int)] [Value.int IntKind.i64 (65280 : Int), Value.int IntKind.i64 (65281 : Int), Value.int IntKind.i64 (65282 : Int), Value.int IntKind.i64 (65284 : Int), Value.int IntKind.i64 (65285 : Int), Value.int IntKind.i64 (65286 : Int), Value.int IntKind.i64 (65287 : Int), Value.int IntKind.i64 (65295 : Int)] (by kernel_rfl) (by kernel_rfl) (by decide) rfl (by kernel_rfl) (by kernel_rfl) (by kernel_rfl) (by kernel_rfl) fun xb1 => ?_)
      refine Xg.acts (Xg.owes_rd 4 hr (by kernel_rfl) (Xg.owes_rd 4 hr (by kernel_rfl) (Xg.owes_rd 4 hr (by kernel_rfl) (Xg.owes_rd 4 hr (by kernel_rfl) Xg.owes_nil)))) ?_
      refine Xg.any_pure (.pointer (some (Addr.mk xb1 xx2 none))) 8 (by kernel_rfl) rfl (by kernel_rfl) (by kernel_rfl) (by kernel_rfl) (by kernel_rfl) rfl (Xg.run_ix_slice' (elem := 3) (b := xb1) (off := ((0 : Nat))) (len := ((8 : Nat))) (cap := ((8 : Nat))) (kd := .i64) (e := ((↑xx2 : Int))) 1 xx2 xx2 (by kernel_rfl) (by kernel_rfl) (by kernel_rfl) (by kernel_rfl) rfl (by omega) (by omega)) ?_
      refine Xg.any_each [9] (by kernel_rfl) rfl ⟨?_, trivial⟩
      refine Xg.comes_act rfl (by kernel_rfl) (by kernel_rfl) (Xg.opx_load (b := xb1) (off := xx2) 0 (Value.int IntKind.i64 ([(65280 : Int), (65281 : Int), (65282 : Int), (65284 : Int), (65285 : Int), (65286 : Int), (65287 : Int), (65295 : Int)].getD xx2 (0 : Int))) rfl (by kernel_rfl) (Xg.get_ints (kd := .i64) (xs := [(65280 : Int), (65281 : Int), (65282 : Int), (65284 : Int), (65285 : Int), (65286 : Int), (65287 : Int), (65295 : Int)]) (by show _ < 8; omega)) (by kernel_rfl) ?_)
      refine Xg.acts (Xg.owes_skip (by kernel_rfl) (Xg.owes_skip (by kernel_rfl) (Xg.owes_rd 4 hr (by kernel_rfl) (Xg.owes_rd 4 hr (by kernel_rfl) Xg.owes_nil)))) ?_
      refine Xg.any_each [16] (by kernel_rfl) rfl ⟨?_, trivial⟩
      refine Xg.comes_act rfl (by kernel_rfl) (by kernel_rfl) (Xg.opx_call1' [1, 3] [PoR p (wrI xx2 σ' (↑xx3 : Int)) (Value.slice a' xs'.length c'), (Drv te), row xb1 (3 : TypeId) [Value.int IntKind.i64 (65280 : Int), Value.int IntKind.i64 (65281 : Int), Value.int IntKind.i64 (65282 : Int), Value.int IntKind.i64 (65284 : Int), Value.int IntKind.i64 (65285 : Int), Value.int IntKind.i64 (65286 : Int), Value.int IntKind.i64 (65287 : Int), Value.int IntKind.i64 (65295 : Int)], bts a' c' xs', A] (fun _ => by kernel_rfl) (@Go.Proofs.YtncdmccdclhokaaDoor.write_any (te) (p) (σ') ((Value.slice a' xs'.length c')) (xx2) (by omega) (((↑xx3 : Int))) (by omega)) (by kernel_rfl) (by kernel_rfl) (by kernel_rfl) ?_)
      refine Xg.acts (Xg.owes_skip (by kernel_rfl) (Xg.owes_skip (by kernel_rfl) (Xg.owes_skip (by kernel_rfl) (Xg.owes_skip (by kernel_rfl) Xg.owes_nil)))) ?_
      refine Xg.any_pure ((Value.int IntKind.i64 (0 : Int))) 17 (by kernel_rfl) rfl (by kernel_rfl) (by kernel_rfl) (by kernel_rfl) (by kernel_rfl) rfl (fun _ => by kernel_rfl) ?_
      refine Xg.any_nil (by kernel_rfl) ?_
      refine Xg.at_inBlock ?_
      refine Xg.at_seq ?_
      refine Xg.at_region ?_
      refine Xg.ops_op (by kernel_rfl) (Xg.opx_pure ((Value.int IntKind.i64 (0 : Int))) rfl (fun _ => by kernel_rfl) ?_)
      refine Xg.ops_op (by kernel_rfl) (Xg.opx_pure ((Value.bool false)) rfl (fun _ => by kernel_rfl) ?_)
      refine Xg.ops_nil ?_
      refine Xg.at_false (t := false) (by kernel_rfl) rfl ?_
      refine Xg.at_skip ?_
      refine Xg.at_inBlock ?_
      refine Xg.at_region ?_
      refine Xg.ops_op (by kernel_rfl) (Xg.opx_pure ((Value.int IntKind.i64 (↑i : Int))) rfl (fun _ => by kernel_rfl) ?_)
      refine Xg.ops_op (by kernel_rfl) (Xg.opx_int .i64 (IntKind.wrap .i64 (((↑i : Int) + (1 : Int)))) rfl (fun _ => by kernel_rfl) (Xg.wrap_i64_in (by omega)) ?_)
      refine Xg.ops_op (by kernel_rfl) (Xg.opx_pure ((Value.int IntKind.i64 ((↑i : Int) + (1 : Int)))) rfl (fun _ => by kernel_rfl) ?_)
      refine Xg.ops_nil ?_
      refine Xg.at_inLoop ?_
      rotate_left
      rotate_left
      rotate_left
      rotate_left
      rotate_left
      rotate_left
      rotate_left
      refine Xg.any_each [15] (by kernel_rfl) rfl ⟨?_, trivial⟩
      refine Xg.comes_act rfl (by kernel_rfl) (by kernel_rfl) (Xg.opx_callE' [] (fun xx3 => [row xb1 (3 : TypeId) [Value.int IntKind.i64 (65280 : Int), Value.int IntKind.i64 (65281 : Int), Value.int IntKind.i64 (65282 : Int), Value.int IntKind.i64 (65284 : Int), Value.int IntKind.i64 (65285 : Int), Value.int IntKind.i64 (65286 : Int), Value.int IntKind.i64 (65287 : Int), Value.int IntKind.i64 (65295 : Int)], PoS p σ' a' c' xs', bts a' c' xs', (Drv te), A]) (fun _ => by kernel_rfl) (@Go.Proofs.YtncdmccdclhokaaDoor.pick_d (((l.getD i default).b)) ((nat_lit 256)) (by omega) (by first | rfl | decide | (constructor <;> omega) | (simp; done) | (simp; omega))) (by kernel_rfl) (by kernel_rfl) (by kernel_rfl) fun xx3 xh6 => ?_)
      try dsimp only at xh6
      refine Xg.acts (Xg.owes_rd 4 hr (by kernel_rfl) (Xg.owes_skip (by kernel_rfl) (Xg.owes_skip (by kernel_rfl) (Xg.owes_skip (by kernel_rfl) (Xg.owes_skip (by kernel_rfl) Xg.owes_nil))))) ?_
      refine Xg.any_each [16] (by kernel_rfl) rfl ⟨?_, trivial⟩
      refine Xg.comes_act rfl (by kernel_rfl) (by kernel_rfl) (Xg.opx_call1' [1, 3] [PoR p (wrI xx2 σ' (↑xx3 : Int)) (Value.slice a' xs'.length c'), (Drv te), row xb1 (3 : TypeId) [Value.int IntKind.i64 (65280 : Int), Value.int IntKind.i64 (65281 : Int), Value.int IntKind.i64 (65282 : Int), Value.int IntKind.i64 (65284 : Int), Value.int IntKind.i64 (65285 : Int), Value.int IntKind.i64 (65286 : Int), Value.int IntKind.i64 (65287 : Int), Value.int IntKind.i64 (65295 : Int)], bts a' c' xs', A] (fun _ => by kernel_rfl) (@Go.Proofs.YtncdmccdclhokaaDoor.write_any (te) (p) (σ') ((Value.slice a' xs'.length c')) (xx2) (by omega) (((↑xx3 : Int))) (by omega)) (by kernel_rfl) (by kernel_rfl) (by kernel_rfl) ?_)
      refine Xg.acts (Xg.owes_skip (by kernel_rfl) (Xg.owes_skip (by kernel_rfl) (Xg.owes_skip (by kernel_rfl) (Xg.owes_skip (by kernel_rfl) (Xg.owes_skip (by kernel_rfl) Xg.owes_nil))))) ?_
      refine Xg.any_pure ((Value.int IntKind.i64 (0 : Int))) 17 (by kernel_rfl) rfl (by kernel_rfl) (by kernel_rfl) (by kernel_rfl) (by kernel_rfl) rfl (fun _ => by kernel_rfl) ?_
      refine Xg.any_nil (by kernel_rfl) ?_
      refine Xg.at_inBlock ?_
      refine Xg.at_seq ?_
      refine Xg.at_region ?_
      refine Xg.ops_op (by kernel_rfl) (Xg.opx_pure ((Value.int IntKind.i64 (0 : Int))) rfl (fun _ => by kernel_rfl) ?_)
      refine Xg.ops_op (by kernel_rfl) (Xg.opx_pure ((Value.bool false)) rfl (fun _ => by kernel_rfl) ?_)
      refine Xg.ops_nil ?_
      refine Xg.at_false (t := false) (by kernel_rfl) rfl ?_
      refine Xg.at_skip ?_
      refine Xg.at_inBlock ?_
      refine Xg.at_region ?_
      refine Xg.ops_op (by kernel_rfl) (Xg.opx_pure ((Value.int IntKind.i64 (↑i : Int))) rfl (fun _ => by kernel_rfl) ?_)
      refine Xg.ops_op (by kernel_rfl) (Xg.opx_int .i64 (IntKind.wrap .i64 (((↑i : Int) + (1 : Int)))) rfl (fun _ => by kernel_rfl) (Xg.wrap_i64_in (by omega)) ?_)
      refine Xg.ops_op (by kernel_rfl) (Xg.opx_pure ((Value.int IntKind.i64 ((↑i : Int) + (1 : Int)))) rfl (fun _ => by kernel_rfl) ?_)
      refine Xg.ops_nil ?_
      refine Xg.at_inLoop ?_
      rotate_left
      refine Xg.any_each [9] (by kernel_rfl) rfl ⟨?_, trivial⟩
      refine Xg.comes_act rfl (by kernel_rfl) (by kernel_rfl) (Xg.opx_load (b := xb1) (off := xx2) 0 (Value.int IntKind.i64 ([(65280 : Int), (65281 : Int), (65282 : Int), (65284 : Int), (65285 : Int), (65286 : Int), (65287 : Int), (65295 : Int)].getD xx2 (0 : Int))) rfl (by kernel_rfl) (Xg.get_ints (kd := .i64) (xs := [(65280 : Int), (65281 : Int), (65282 : Int), (65284 : Int), (65285 : Int), (65286 : Int), (65287 : Int), (65295 : Int)]) (by show _ < 8; omega)) (by kernel_rfl) ?_)
      refine Xg.acts (Xg.owes_rd 4 hr (by kernel_rfl) (Xg.owes_skip (by kernel_rfl) (Xg.owes_skip (by kernel_rfl) (Xg.owes_rd 4 hr (by kernel_rfl) (Xg.owes_rd 4 hr (by kernel_rfl) Xg.owes_nil))))) ?_
      refine Xg.any_each [16] (by kernel_rfl) rfl ⟨?_, trivial⟩
      refine Xg.comes_act rfl (by kernel_rfl) (by kernel_rfl) (Xg.opx_call1' [1, 3] [PoR p (wrI xx2 σ' (↑xx3 : Int)) (Value.slice a' xs'.length c'), (Drv te), row xb1 (3 : TypeId) [Value.int IntKind.i64 (65280 : Int), Value.int IntKind.i64 (65281 : Int), Value.int IntKind.i64 (65282 : Int), Value.int IntKind.i64 (65284 : Int), Value.int IntKind.i64 (65285 : Int), Value.int IntKind.i64 (65286 : Int), Value.int IntKind.i64 (65287 : Int), Value.int IntKind.i64 (65295 : Int)], bts a' c' xs', A] (fun _ => by kernel_rfl) (@Go.Proofs.YtncdmccdclhokaaDoor.write_any (te) (p) (σ') ((Value.slice a' xs'.length c')) (xx2) (by omega) (((↑xx3 : Int))) (by omega)) (by kernel_rfl) (by kernel_rfl) (by kernel_rfl) ?_)
      refine Xg.acts (Xg.owes_skip (by kernel_rfl) (Xg.owes_skip (by kernel_rfl) (Xg.owes_skip (by kernel_rfl) (Xg.owes_skip (by kernel_rfl) (Xg.owes_skip (by kernel_rfl) Xg.owes_nil))))) ?_
      refine Xg.any_pure ((Value.int IntKind.i64 (0 : Int))) 17 (by kernel_rfl) rfl (by kernel_rfl) (by kernel_rfl) (by kernel_rfl) (by kernel_rfl) rfl (fun _ => by kernel_rfl) ?_
      refine Xg.any_nil (by kernel_rfl) ?_
      refine Xg.at_inBlock ?_
      refine Xg.at_seq ?_
      refine Xg.at_region ?_
      refine Xg.ops_op (by kernel_rfl) (Xg.opx_pure ((Value.int IntKind.i64 (0 : Int))) rfl (fun _ => by kernel_rfl) ?_)
      refine Xg.ops_op (by kernel_rfl) (Xg.opx_pure ((Value.bool false)) rfl (fun _ => by kernel_rfl) ?_)
      refine Xg.ops_nil ?_
      refine Xg.at_false (t := false) (by kernel_rfl) rfl ?_
      refine Xg.at_skip ?_
      refine Xg.at_inBlock ?_
      refine Xg.at_region ?_
      refine Xg.ops_op (by kernel_rfl) (Xg.opx_pure ((Value.int IntKind.i64 (↑i : Int))) rfl (fun _ => by kernel_rfl) ?_)
      refine Xg.ops_op (by kernel_rfl) (Xg.opx_int .i64 (IntKind.wrap .i64 (((↑i : Int) + (1 : Int)))) rfl (fun _ => by kernel_rfl) (Xg.wrap_i64_in (by omega)) ?_)
      refine Xg.ops_op (by kernel_rfl) (Xg.opx_pure ((Value.int IntKind.i64 ((↑i : Int) + (1 : Int)))) rfl (fun _ => by kernel_rfl) ?_)
      refine Xg.ops_nil ?_
      refine Xg.at_inLoop ?_
      rotate_left
      rotate_left
      rotate_left
      rotate_left
      refine Xg.any_each [15] (by kernel_rfl) rfl ⟨?_, trivial⟩
      refine Xg.comes_act rfl (by kernel_rfl) (by kernel_rfl) (Xg.opx_callE' [] (fun xx3 => [row xb1 (3 : TypeId) [Value.int IntKind.i64 (65280 : Int), Value.int IntKind.i64 (65281 : Int), Value.int IntKind.i64 (65282 : Int), Value.int IntKind.i64 (65284 : Int), Value.int IntKind.i64 (65285 : Int), Value.int IntKind.i64 (65286 : Int), Value.int IntKind.i64 (65287 : Int), Value.int IntKind.i64 (65295 : Int)], PoS p σ' a' c' xs', bts a' c' xs', (Drv te), A]) (fun _ => by kernel_rfl) (@Go.Proofs.YtncdmccdclhokaaDoor.pick_d (((l.getD i default).b)) ((nat_lit 256)) (by omega) (by first | rfl | decide | (constructor <;> omega) | (simp; done) | (simp; omega))) (by kernel_rfl) (by kernel_rfl) (by kernel_rfl) fun xx3 xh7 => ?_)
      try dsimp only at xh7
      refine Xg.acts (Xg.owes_skip (by kernel_rfl) (Xg.owes_skip (by kernel_rfl) (Xg.owes_skip (by kernel_rfl) (Xg.owes_skip (by kernel_rfl) Xg.owes_nil)))) ?_
      refine Xg.any_each [16] (by kernel_rfl) rfl ⟨?_, trivial⟩
      refine Xg.comes_act rfl (by kernel_rfl) (by kernel_rfl) (Xg.opx_call1' [1, 3] [PoR p (wrI xx2 σ' (↑xx3 : Int)) (Value.slice a' xs'.length c'), (Drv te), row xb1 (3 : TypeId) [Value.int IntKind.i64 (65280 : Int), Value.int IntKind.i64 (65281 : Int), Value.int IntKind.i64 (65282 : Int), Value.int IntKind.i64 (65284 : Int), Value.int IntKind.i64 (65285 : Int), Value.int IntKind.i64 (65286 : Int), Value.int IntKind.i64 (65287 : Int), Value.int IntKind.i64 (65295 : Int)], bts a' c' xs', A] (fun _ => by kernel_rfl) (@Go.Proofs.YtncdmccdclhokaaDoor.write_any (te) (p) (σ') ((Value.slice a' xs'.length c')) (xx2) (by omega) (((↑xx3 : Int))) (by omega)) (by kernel_rfl) (by kernel_rfl) (by kernel_rfl) ?_)
      refine Xg.acts (Xg.owes_skip (by kernel_rfl) (Xg.owes_skip (by kernel_rfl) (Xg.owes_skip (by kernel_rfl) (Xg.owes_skip (by kernel_rfl) Xg.owes_nil)))) ?_
      refine Xg.any_pure ((Value.int IntKind.i64 (0 : Int))) 17 (by kernel_rfl) rfl (by kernel_rfl) (by kernel_rfl) (by kernel_rfl) (by kernel_rfl) rfl (fun _ => by kernel_rfl) ?_
      refine Xg.any_nil (by kernel_rfl) ?_
      refine Xg.at_inBlock ?_
      refine Xg.at_seq ?_
      refine Xg.at_region ?_
      refine Xg.ops_op (by kernel_rfl) (Xg.opx_pure ((Value.int IntKind.i64 (0 : Int))) rfl (fun _ => by kernel_rfl) ?_)
      refine Xg.ops_op (by kernel_rfl) (Xg.opx_pure ((Value.bool false)) rfl (fun _ => by kernel_rfl) ?_)
      refine Xg.ops_nil ?_
      refine Xg.at_false (t := false) (by kernel_rfl) rfl ?_
      refine Xg.at_skip ?_
      refine Xg.at_inBlock ?_
      refine Xg.at_region ?_
      refine Xg.ops_op (by kernel_rfl) (Xg.opx_pure ((Value.int IntKind.i64 (↑i : Int))) rfl (fun _ => by kernel_rfl) ?_)
      refine Xg.ops_op (by kernel_rfl) (Xg.opx_int .i64 (IntKind.wrap .i64 (((↑i : Int) + (1 : Int)))) rfl (fun _ => by kernel_rfl) (Xg.wrap_i64_in (by omega)) ?_)
      refine Xg.ops_op (by kernel_rfl) (Xg.opx_pure ((Value.int IntKind.i64 ((↑i : Int) + (1 : Int)))) rfl (fun _ => by kernel_rfl) ?_)
      refine Xg.ops_nil ?_
      refine Xg.at_inLoop ?_
      rotate_left
      refine Xg.any_each [9] (by kernel_rfl) rfl ⟨?_, trivial⟩
      refine Xg.comes_act rfl (by kernel_rfl) (by kernel_rfl) (Xg.opx_load (b := xb1) (off := xx2) 0 (Value.int IntKind.i64 ([(65280 : Int), (65281 : Int), (65282 : Int), (65284 : Int), (65285 : Int), (65286 : Int), (65287 : Int), (65295 : Int)].getD xx2 (0 : Int))) rfl (by kernel_rfl) (Xg.get_ints (kd := .i64) (xs := [(65280 : Int), (65281 : Int), (65282 : Int), (65284 : Int), (65285 : Int), (65286 : Int), (65287 : Int), (65295 : Int)]) (by show _ < 8; omega)) (by kernel_rfl) ?_)
      refine Xg.acts (Xg.owes_skip (by kernel_rfl) (Xg.owes_skip (by kernel_rfl) (Xg.owes_rd 4 hr (by kernel_rfl) (Xg.owes_rd 4 hr (by kernel_rfl) Xg.owes_nil)))) ?_
      refine Xg.any_each [16] (by kernel_rfl) rfl ⟨?_, trivial⟩
      refine Xg.comes_act rfl (by kernel_rfl) (by kernel_rfl) (Xg.opx_call1' [1, 3] [PoR p (wrI xx2 σ' (↑xx3 : Int)) (Value.slice a' xs'.length c'), (Drv te), row xb1 (3 : TypeId) [Value.int IntKind.i64 (65280 : Int), Value.int IntKind.i64 (65281 : Int), Value.int IntKind.i64 (65282 : Int), Value.int IntKind.i64 (65284 : Int), Value.int IntKind.i64 (65285 : Int), Value.int IntKind.i64 (65286 : Int), Value.int IntKind.i64 (65287 : Int), Value.int IntKind.i64 (65295 : Int)], bts a' c' xs', A] (fun _ => by kernel_rfl) (@Go.Proofs.YtncdmccdclhokaaDoor.write_any (te) (p) (σ') ((Value.slice a' xs'.length c')) (xx2) (by omega) (((↑xx3 : Int))) (by omega)) (by kernel_rfl) (by kernel_rfl) (by kernel_rfl) ?_)
      refine Xg.acts (Xg.owes_skip (by kernel_rfl) (Xg.owes_skip (by kernel_rfl) (Xg.owes_skip (by kernel_rfl) (Xg.owes_skip (by kernel_rfl) Xg.owes_nil)))) ?_
      refine Xg.any_pure ((Value.int IntKind.i64 (0 : Int))) 17 (by kernel_rfl) rfl (by kernel_rfl) (by kernel_rfl) (by kernel_rfl) (by kernel_rfl) rfl (fun _ => by kernel_rfl) ?_
      refine Xg.any_nil (by kernel_rfl) ?_
      refine Xg.at_inBlock ?_
      refine Xg.at_seq ?_
      refine Xg.at_region ?_
      refine Xg.ops_op (by kernel_rfl) (Xg.opx_pure ((Value.int IntKind.i64 (0 : Int))) rfl (fun _ => by kernel_rfl) ?_)
      refine Xg.ops_op (by kernel_rfl) (Xg.opx_pure ((Value.bool false)) rfl (fun _ => by kernel_rfl) ?_)
      refine Xg.ops_nil ?_
      refine Xg.at_false (t := false) (by kernel_rfl) rfl ?_
      refine Xg.at_skip ?_
      refine Xg.at_inBlock ?_
      refine Xg.at_region ?_
      refine Xg.ops_op (by kernel_rfl) (Xg.opx_pure ((Value.int IntKind.i64 (↑i : Int))) rfl (fun _ => by kernel_rfl) ?_)
      refine Xg.ops_op (by kernel_rfl) (Xg.opx_int .i64 (IntKind.wrap .i64 (((↑i : Int) + (1 : Int)))) rfl (fun _ => by kernel_rfl) (Xg.wrap_i64_in (by omega)) ?_)
      refine Xg.ops_op (by kernel_rfl) (Xg.opx_pure ((Value.int IntKind.i64 ((↑i : Int) + (1 : Int)))) rfl (fun _ => by kernel_rfl) ?_)
      refine Xg.ops_nil ?_
      refine Xg.at_inLoop ?_)
    all_goals first
      | (obtain ⟨q1, _⟩ := ‹xx1 = _ ∧ _›; obtain ⟨q2, _⟩ := ‹xx2 = _ ∧ _›; obtain ⟨q3, _⟩ := ‹xx3 = _ ∧ _›
         refine Xg.at_back [0, 3, 1, 4] (by kernel_rfl) (fun J' => ih ((i + 1, wrI xx2 σ' (xx3 : Nat), a', c', xs'), J') ⟨by dsimp only; omega, ?_⟩ (by dsimp only; omega)) (by kernel_rfl) (by kernel_rfl)
         show _ = doN l (i + 1) (σ, xs)
         rw [hd]; unfold doAct; rw [← q1, ← q2, ← q3, if_neg (by omega), if_pos (by omega)])
      | (obtain ⟨q1, _⟩ := ‹xx1 = _ ∧ _›; obtain ⟨q2, _⟩ := ‹xx2 = _ ∧ _›
         have q4 : xx1 = 4 := by omega
         refine Xg.at_back [0, 1, 2, 3] (by kernel_rfl) (fun J' => ih ((i + 1, pressed σ' { σ' with buttons := (xx2 : Nat) }, a', c', xs'), J') ⟨by dsimp only; omega, ?_⟩ (by dsimp only; omega)) (by kernel_rfl) (by kernel_rfl)
         show _ = doN l (i + 1) (σ, xs)
         rw [hd]; unfold doAct; rw [← q1, ← q2, if_neg (by omega), if_neg (by omega), if_pos (by omega)])
      | (obtain ⟨q1, _⟩ := ‹xx1 = _ ∧ _›; obtain ⟨q2, _⟩ := ‹xx2 = _ ∧ _›
         have q4 : xx1 = 5 := by omega
         refine Xg.at_back [0, 1, 2, 3] (by kernel_rfl) (fun J' => ih ((i + 1, { σ' with requests := takeI σ'.requests (xx2 : Nat) }, a', c', xs'), J') ⟨by dsimp only; omega, ?_⟩ (by dsimp only; omega)) (by kernel_rfl) (by kernel_rfl)
         show _ = doN l (i + 1) (σ, xs)
         rw [hd]; unfold doAct; rw [← q1, ← q2, if_neg (by omega), if_neg (by omega), if_neg (by omega)])
      | (obtain ⟨q1, _⟩ := ‹xx1 = _ ∧ _›; obtain ⟨q2, _⟩ := ‹xx2 = _ ∧ _›; have q3 := ‹(xx3.1, _) = _›
         refine Xg.at_back [0, 1, 2, 3] (by kernel_rfl) (fun J' => ih ((i + 1, xx3.1, xx3.2.1, xx3.2.2.1, xx3.2.2.2), J') ⟨by dsimp only; omega, ?_⟩ (by dsimp only; omega)) (by kernel_rfl) (by kernel_rfl)
         show _ = doN l (i + 1) (σ, xs)
         rw [hd]; unfold doAct; rw [← q1, ← q2, if_pos (by omega)]; exact q3)
  · clear ih
    (focus
      refine Xg.at_seq ?_
      refine Xg.at_seq ?_
      refine Xg.at_region ?_
      refine Xg.ops_op (by kernel_rfl) (Xg.opx_pure ((Value.int IntKind.i64 (↑i : Int))) rfl (fun _ => by kernel_rfl) ?_)
      refine Xg.ops_op (by kernel_rfl) (Xg.opx_pure ((Value.slice la n lc)) rfl (fun _ => by kernel_rfl) ?_)
      refine Xg.ops_op (by kernel_rfl) (Xg.opx_pure ((Value.int IntKind.i64 (↑n : Int))) rfl (fun _ => by kernel_rfl) ?_)
      refine Xg.ops_op (by kernel_rfl) (Xg.opx_pure (.bool (decide ((((↑i : Int)) : Int) < ((↑n : Int))))) rfl (fun _ => by kernel_rfl) ?_)
      refine Xg.ops_op (by kernel_rfl) (Xg.opx_pure ((Value.bool (decide ((↑i : Int) < (↑n : Int))))) rfl (fun _ => by kernel_rfl) ?_)
      refine Xg.ops_flag (j := 11) (c := (decide ((↑i : Int) < (↑n : Int)))) (by kernel_rfl) (fun xh1 => ?_) (fun xh1 => ?_)
      replace xh1 : ((↑i : Int) < (↑n : Int)) := of_decide_eq_true xh1
      rotate_left
      replace xh1 : ¬ (((↑i : Int) < (↑n : Int))) := of_decide_eq_false xh1
      rotate_right
      refine Xg.ops_op (by kernel_rfl) (Xg.opx_pure ((Value.int IntKind.i64 (↑i : Int))) rfl (fun _ => by kernel_rfl) ?_)
      refine Xg.ops_op (by kernel_rfl) (Xg.opx_pure (.bool (decide ((((↑i : Int)) : Int) < ((200 : Int))))) rfl (fun _ => by kernel_rfl) ?_)
      refine Xg.ops_op (by kernel_rfl) (Xg.opx_pure ((Value.bool (decide ((↑i : Int) < (200 : Int))))) rfl (fun _ => by kernel_rfl) ?_)
      refine Xg.ops_nil ?_
      refine Xg.at_false (t := decide (((↑i : Int) < (200 : Int)))) (by kernel_rfl) (decide_eq_false (by omega)) ?_
      refine Xg.at_exit rfl ?_
      refine Xg.at_seq ?_
      refine Xg.at_region ?_
      refine Xg.ops_op (by kernel_rfl) (Xg.opx_pure ((Value.bool true)) rfl (fun _ => by kernel_rfl) ?_)
      refine Xg.ops_nil ?_
      refine Xg.at_ret_ps (v := (Value.bool true)) [0, 1, 2, 3] [PoS p σ' a' c' xs', bts a' c' xs', (Drv te), A] Go.Proofs.Tryd.func26 (fun _ => by kernel_rfl) (by kernel_rfl) (by kernel_rfl) ?_
      refine ⟨((Po.mk σ'.buttons σ'.rows σ'.shift σ'.line σ'.counter σ'.timer σ'.again σ'.control σ'.requests σ'.alarm σ'.transfer σ'.sending, a', c', xs')), ?_, by kernel_rfl, by kernel_rfl⟩
      rotate_left
      refine Xg.ops_skip (by kernel_rfl) ?_
      refine Xg.ops_skip (by kernel_rfl) ?_
      refine Xg.ops_op (by kernel_rfl) (Xg.opx_pure ((Value.bool false)) rfl (fun _ => by kernel_rfl) ?_)
      refine Xg.ops_nil ?_
      refine Xg.at_false (t := false) (by kernel_rfl) rfl ?_
      refine Xg.at_exit rfl ?_
      refine Xg.at_seq ?_
      refine Xg.at_region ?_
      refine Xg.ops_op (by kernel_rfl) (Xg.opx_pure ((Value.bool true)) rfl (fun _ => by kernel_rfl) ?_)
      refine Xg.ops_nil ?_
      refine Xg.at_ret_ps (v := (Value.bool true)) [0, 1, 2, 3] [PoS p σ' a' c' xs', bts a' c' xs', (Drv te), A] Go.Proofs.Tryd.func26 (fun _ => by kernel_rfl) (by kernel_rfl) (by kernel_rfl) ?_
      refine ⟨((Po.mk σ'.buttons σ'.rows σ'.shift σ'.line σ'.counter σ'.timer σ'.again σ'.control σ'.requests σ'.alarm σ'.transfer σ'.sending, a', c', xs')), ?_, by kernel_rfl, by kernel_rfl⟩)
    all_goals (have hi2 : i = min n 200 := by omega)
    all_goals (rw [← hi2]; exact he)

set_option maxHeartbeats 0 in
theorem made_d (A : HP) (la : Option Addr) (n lc : Nat) (l : List Act) (hn : l.length = n) (hn2 : n ≤ maxLen) (hr : Reads A 3 (.slice la n lc) n (recs actC l)) (hl : ∀ i, i < n → (l.getD i default).ok) :
    Does Tryd.prog 13 [.slice la n lc] [(Drv te), A]
      (RetE (fun x : Nat × Po × Option Addr × Nat × List Int => (x.2.1, x.2.2.2.2) = doN l (min n 200) (new0, [])) (fun x => pt x.1) (fun x => [PoS x.1 x.2.1 x.2.2.1 x.2.2.2.1 x.2.2.2.2, bts x.2.2.1 x.2.2.2.1 x.2.2.2.2, (Drv te), A])) := by
  have h0 : new0.Wf := ⟨by decide, by decide, by decide, by decide, by decide, by decide, by decide, by decide, by decide, by decide, by decide, by decide⟩
  have hx : OkX (new0, ([] : List Int)) := ⟨h0, by decide⟩
  have h171 : rdI 3 new0 = 171 := by decide
  have hrd : ∀ p s, Does Tryd.prog 19 [pt p, .int .i64 65284] [PoR p new0 s] (Ret (.tuple #[.int .i64 171, .int .i64 0]) [PoR p new0 s]) := fun p s => by
    have := read_3 p new0 h0 s; rw [h171] at this; exact this
  have hnil : ∀ (p : Nat), Does Tryd.prog 26 [pt p, .slice la n lc] [PoS p new0 none 0 [], bts none 0 [], (Drv te), A]
      (RetE (fun x : Po × Option Addr × Nat × List Int => (x.1, x.2.2.2) = doN l (min n 200) (new0, [])) (fun _ => .bool true) (fun x => [PoS p x.1 x.2.1 x.2.2.1 x.2.2.2, bts x.2.1 x.2.2.1 x.2.2.2, (Drv te), A])) :=
    fun p => acts_d p new0 none 0 [] hx A la n lc l hn hn2 hr hl
  (focus
    refine Xg.spec_of Go.Proofs.Tryd.func13 rfl Go.Proofs.Tryd.ntmps13 fun g F => ?_)
  refine Xg.at_nil_ints 5 .u8 ?_
  (focus
    refine Xg.at_seq ?_
    refine Xg.at_region ?_
    refine Xg.ops_op (by kernel_rfl) (Xg.opx_pure ((Value.pointer none)) rfl (fun _ => by kernel_rfl) ?_)
    refine Xg.ops_nil ?_
    refine Xg.at_seq ?_
    refine Xg.at_region ?_
    refine Xg.ops_op (by kernel_rfl) (Xg.opx_callE' [] (fun xx1 => [PoS xx1 new0 none (0 : Nat) [], ints (5 : TypeId) IntKind.u8 none (0 : Nat) [], (Drv te), A]) (fun _ => by kernel_rfl) (@Go.Proofs.YtncdmccdclhokaaDoor.new_d ) (by kernel_rfl) (by kernel_rfl) (by kernel_rfl) fun xx1 xh1 => ?_)
    try dsimp only at xh1
    refine Xg.ops_op (by kernel_rfl) (Xg.opx_pure ((Value.pointer (some (Addr.mk xx1 (0 : Nat) none)))) rfl (fun _ => by kernel_rfl) ?_)
    refine Xg.ops_nil ?_
    refine Xg.at_seq ?_
    refine Xg.at_seq ?_
    refine Xg.at_region ?_
    refine Xg.ops_op (by kernel_rfl) (Xg.opx_pure ((Value.pointer (some (Addr.mk xx1 (0 : Nat) none)))) rfl (fun _ => by kernel_rfl) ?_)
    refine Xg.ops_op (by kernel_rfl) (Xg.opx_pure ((Value.bool false)) rfl (fun _ => by kernel_rfl) ?_)
    refine Xg.ops_nil ?_
    refine Xg.at_false (t := false) (by kernel_rfl) rfl ?_
    refine Xg.at_skip ?_
    refine Xg.at_seq ?_
    refine Xg.at_region ?_
    refine Xg.ops_op (by kernel_rfl) (Xg.opx_pure ((Value.pointer (some (Addr.mk xx1 (0 : Nat) none)))) rfl (fun _ => by kernel_rfl) ?_)
    refine Xg.ops_op (by kernel_rfl) (Xg.opx_call1' [0] [PoR xx1 new0 (Value.slice none (0 : Nat) (0 : Nat)), ints (5 : TypeId) IntKind.u8 none (0 : Nat) [], (Drv te), A] (fun _ => by kernel_rfl) (@hrd (xx1) ((Value.slice none (0 : Nat) (0 : Nat)))) (by kernel_rfl) (by kernel_rfl) (by kernel_rfl) ?_)
    refine Xg.ops_op (by kernel_rfl) (Xg.opx_pure ((Value.tuple #[Value.int IntKind.i64 (171 : Int), Value.int IntKind.i64 (0 : Int)])) rfl (fun _ => by kernel_rfl) ?_)
    refine Xg.ops_op (by kernel_rfl) (Xg.opx_pure ((Value.int IntKind.i64 (171 : Int))) rfl (fun _ => by kernel_rfl) ?_)
    refine Xg.ops_op (by kernel_rfl) (Xg.opx_pure ((Value.int IntKind.i64 (0 : Int))) rfl (fun _ => by kernel_rfl) ?_)
    refine Xg.ops_op (by kernel_rfl) (Xg.opx_pure ((Value.int IntKind.i64 (171 : Int))) rfl (fun _ => by kernel_rfl) ?_)
    refine Xg.ops_op (by kernel_rfl) (Xg.opx_pure ((Value.int IntKind.i64 (0 : Int))) rfl (fun _ => by kernel_rfl) ?_)
    refine Xg.ops_nil ?_
    refine Xg.at_seq ?_
    refine Xg.at_region ?_
    refine Xg.ops_op (by kernel_rfl) (Xg.opx_pure ((Value.pointer (some (Addr.mk xx1 (0 : Nat) none)))) rfl (fun _ => by kernel_rfl) ?_)
    refine Xg.ops_op (by kernel_rfl) (Xg.opx_pure ((Value.slice la n lc)) rfl (fun _ => by kernel_rfl) ?_)
    refine Xg.ops_op (by kernel_rfl) (Xg.opx_callE' [0, 1, 2, 3] (fun xx2 => [PoS xx1 xx2.fst xx2.snd.fst xx2.snd.snd.fst xx2.snd.snd.snd, bts xx2.snd.fst xx2.snd.snd.fst xx2.snd.snd.snd, (Drv te), A]) (fun _ => by kernel_rfl) (@hnil (xx1)) (by kernel_rfl) (by kernel_rfl) (by kernel_rfl) fun xx2 xh2 => ?_)
    try dsimp only at xh2
    refine Xg.ops_op (by kernel_rfl) (Xg.opx_pure ((Value.bool true)) rfl (fun _ => by kernel_rfl) ?_)
    refine Xg.ops_nil ?_
    refine Xg.at_seq ?_
    refine Xg.at_seq ?_
    refine Xg.at_region ?_
    refine Xg.ops_op (by kernel_rfl) (Xg.opx_pure ((Value.int IntKind.i64 (171 : Int))) rfl (fun _ => by kernel_rfl) ?_)
    refine Xg.ops_op (by kernel_rfl) (Xg.opx_pure ((Value.bool false)) rfl (fun _ => by kernel_rfl) ?_)
    refine Xg.ops_op (by kernel_rfl) (Xg.opx_pure ((Value.bool false)) rfl (fun _ => by kernel_rfl) ?_)
    refine Xg.ops_op (by kernel_rfl) (Xg.opx_pure ((Value.int IntKind.i64 (0 : Int))) rfl (fun _ => by kernel_rfl) ?_)
    refine Xg.ops_op (by kernel_rfl) (Xg.opx_pure ((Value.bool false)) rfl (fun _ => by kernel_rfl) ?_)
    refine Xg.ops_op (by kernel_rfl) (Xg.opx_pure ((Value.bool false)) rfl (fun _ => by kernel_rfl) ?_)
    refine Xg.ops_op (by kernel_rfl) (Xg.opx_pure ((Value.bool false)) rfl (fun _ => by kernel_rfl) ?_)
    refine Xg.ops_op (by kernel_rfl) (Xg.opx_pure ((Value.bool true)) rfl (fun _ => by kernel_rfl) ?_)
    refine Xg.ops_op (by kernel_rfl) (Xg.opx_pure (.bool false) rfl (fun _ => by kernel_rfl) ?_)
    refine Xg.ops_op (by kernel_rfl) (Xg.opx_pure ((Value.bool false)) rfl (fun _ => by kernel_rfl) ?_)
    refine Xg.ops_nil ?_
    refine Xg.at_false (t := false) (by kernel_rfl) rfl ?_
    refine Xg.at_skip ?_
    refine Xg.at_seq ?_
    refine Xg.at_region ?_
    refine Xg.ops_op (by kernel_rfl) (Xg.opx_pure ((Value.pointer (some (Addr.mk xx1 (0 : Nat) none)))) rfl (fun _ => by kernel_rfl) ?_)
    refine Xg.ops_op (by kernel_rfl) (Xg.opx_pure ((Value.pointer (some (Addr.mk xx1 (0 : Nat) none)))) rfl (fun _ => by kernel_rfl) ?_)
    refine Xg.ops_nil ?_
    refine Xg.at_ret_ps (v := (Value.pointer (some (Addr.mk xx1 (0 : Nat) none)))) [0, 1, 2, 3] [PoS xx1 xx2.fst xx2.snd.fst xx2.snd.snd.fst xx2.snd.snd.snd, bts xx2.snd.fst xx2.snd.snd.fst xx2.snd.snd.snd, (Drv te), A] Go.Proofs.Tryd.func13 (fun _ => by kernel_rfl) (by kernel_rfl) (by kernel_rfl) ?_
    refine ⟨((xx1, Po.mk xx2.fst.buttons xx2.fst.rows xx2.fst.shift xx2.fst.line xx2.fst.counter xx2.fst.timer xx2.fst.again xx2.fst.control xx2.fst.requests xx2.fst.alarm xx2.fst.transfer xx2.fst.sending, xx2.snd.fst, xx2.snd.snd.fst, xx2.snd.snd.snd)), ?_, by kernel_rfl, ?_⟩
    rotate_left)
  all_goals first | rfl | exact xh2

end Go.Proofs.YtncdmccdclhokaaDoor
