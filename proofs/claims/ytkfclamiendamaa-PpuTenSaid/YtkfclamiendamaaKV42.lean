/- The law PpuTen: the walk. -/
import Derived.Test.YtkfclamiendamaaKV41
import Derived.Test.YtkfclamiendamaaKS
namespace Go.Proofs.Ytkfclamiendamaa
open Go.Sl Go.Xg
set_option linter.unusedVariables false
set_option linter.unusedSimpArgs false
set_option maxHeartbeats 4000000
set_option maxRecDepth 100000

theorem tlT_bd {xs : List Int} {n : Nat} (hn : xs.length = n) (hB : ∀ i, i < n → 0 ≤ xs.getD i 0 ∧ xs.getD i 0 ≤ 255) (i : Nat) (hi : i < 16) : 0 ≤ (tl xs).getD i 0 ∧ (tl xs).getD i 0 ≤ 255 := by
  rw [tl_get xs i hi]
  split
  · exact hB i (by omega)
  · omega
theorem at_nil_ints {P : Program} {f : FuncId} {g : World} {F : List HP} {R : Ending → World → Prop} {k : List Item} {T : List Value} {L : List HP} (E : TypeId) (kd : IntKind) (h : At P f g F R k T (ints E kd none 0 [] :: L)) : At P f g F R k T L := Xg.at_nil_own E 1 h

set_option maxHeartbeats 0 in
theorem pten_0 (A : HP) (a : Option Addr) (n c : Nat) (xs : List Int) (hn : xs.length = n) (hmx : n ≤ maxLen) (hR : Reads A 1 (.slice a n c) n (xs.map (Value.int .u8))) (hB : ∀ i, i < n → 0 ≤ xs.getD i 0 ∧ xs.getD i 0 ≤ 255)
    (row0 : Int) (hrow : i64ok row0)
    (a2 : Option Addr) (n2 c2 : Nat) (cs : List Int) (hn2 : cs.length = n2) (hmx2 : n2 ≤ maxLen) (hR2 : Reads A 1 (.slice a2 n2 c2) n2 (cs.map (Value.int .u8))) (hB2 : ∀ i, i < n2 → 0 ≤ cs.getD i 0 ∧ cs.getD i 0 ≤ 255)
    (a3 : Option Addr) (n3 c3 : Nat) (ms : List Int) (hn3 : ms.length = n3) (hmx3 : n3 ≤ maxLen) (hR3 : Reads A 1 (.slice a3 n3 c3) n3 (ms.map (Value.int .u8))) (hB3 : ∀ i, i < n3 → 0 ≤ ms.getD i 0 ∧ ms.getD i 0 ≤ 255) (m : Nat) (hm : (n3 ≤ 30 ∧ m = n3) ∨ (30 < n3 ∧ m = 30)) :
    Does Try.prog 11 [.slice a n c, .int .i64 row0, .slice a2 n2 c2, .slice a3 n3 c3] [A] (Ret (.bool true) [A]) := by
  unfold maxLen at hmx2 hmx3
  have hlo := lone_d A a n c xs hn hmx hR
  (focus
    refine Xg.spec_of Go.Proofs.Try.func11 rfl Go.Proofs.Try.ntmps11 fun g F => ?_)
  refine Xg.at_nil_own 5 1 ?_
  (focus
    refine Xg.at_seq ?_
    refine Xg.at_region ?_
    refine Xg.ops_op (by kernel_rfl) (Xg.opx_pure ((Value.bool false)) rfl (fun _ => by kernel_rfl) ?_)
    refine Xg.ops_nil ?_
    refine Xg.at_seq ?_
    refine Xg.at_region ?_
    refine Xg.ops_op (by kernel_rfl) (Xg.opx_pure ((iv row0)) rfl (fun _ => by kernel_rfl) ?_)
    refine Xg.ops_op (by kernel_rfl) (Xg.opx_callE' [] (fun xx1 => [ownS (5 : Nat) (1 : Nat) (Value.slice none (0 : Nat) (0 : Nat)) (0 : Nat) [], A]) (fun _ => by kernel_rfl) (@Go.Proofs.Ytkfclamiendamaa.pick_d (row0) ((nat_lit 130)) (by omega) (by first | rfl | decide | (constructor <;> omega) | (simp; done) | (simp; omega))) (by kernel_rfl) (by kernel_rfl) (by kernel_rfl) fun xx1 xh1 => ?_)
    try dsimp only at xh1
    obtain ⟨xh1_0, xh1_1⟩ := xh1
    refine Xg.ops_op (by kernel_rfl) (Xg.opx_int .i64 (IntKind.wrap .i64 (((16 : Int) + (↑xx1 : Int)))) rfl (fun _ => by kernel_rfl) (Xg.wrap_i64_in (by omega)) ?_)
    refine Xg.ops_op (by kernel_rfl) (Xg.opx_int .u8 (IntKind.wrap .u8 (((16 : Int) + (↑xx1 : Int)))) rfl (fun _ => by kernel_rfl) (Xg.wrap_u8_in (by omega)) ?_)
    refine Xg.ops_op (by kernel_rfl) (Xg.opx_pure ((uv ((16 : Int) + (↑xx1 : Int)))) rfl (fun _ => by kernel_rfl) ?_)
    refine Xg.ops_nil ?_
    refine Xg.at_seq ?_
    refine Xg.at_region ?_
    refine Xg.ops_op (by kernel_rfl) (Xg.opx_pure ((Value.slice none (0 : Nat) (0 : Nat))) rfl (fun _ => by kernel_rfl) ?_)
    refine Xg.ops_nil ?_
    refine Xg.at_seq ?_
    refine Xg.at_seq ?_
    refine Xg.at_region ?_
    refine Xg.ops_op (by kernel_rfl) (Xg.opx_pure ((iv 0)) rfl (fun _ => by kernel_rfl) ?_)
    refine Xg.ops_nil ?_
    refine Xg.at_block ?_)
  (focus
    refine Xg.at_rounds_inv (α := (Nat × List Int × Option Addr × Nat) × (Nat → Value)) (fun x => ((fun x => x.1 ≤ 10 ∧ x.2.1 = tenL (16 + (xx1 : Int)) cs n2 x.1 ∧ x.2.1.length = 4 * x.1) : (Nat × List Int × Option Addr × Nat) → Prop) x.1) (fun x => ((fun x => 10 - x.1) : (Nat × List Int × Option Addr × Nat) → Nat) x.1) (fun x => Xg.headT [Value.slice a n c, iv row0, Value.slice a2 n2 c2, Value.slice a3 n3 c3, tu, tu, tu, tu, Value.bool false, uv ((16 : Int) + (↑xx1 : Int)), Value.slice none (0 : Nat) (0 : Nat), iv 0, tu, tu, tu, tu, tu, tu, tu, iv row0, iv (↑xx1 : Int), iv ((16 : Int) + (↑xx1 : Int)), uv ((16 : Int) + (↑xx1 : Int)), tu, tu, tu, tu, tu, tu, tu, tu, tu, tu, tu, tu, tu, tu, tu, tu, tu, tu, tu, tu, tu, tu, tu, tu, tu, tu, tu, tu, tu, tu, tu, tu, tu, tu, tu, tu, tu, tu, tu, tu, tu, tu, tu, tu, tu, tu, tu, tu, tu, tu, tu, tu, tu, tu, tu, tu, tu, tu, tu, tu, tu, tu, tu] [12, 23, 24, 25, 26, 27, 28, 29, 30, 31, 32, 33, 34, 35, 36, 37, 38, 39] (((fun x => [(10, .slice x.2.2.1 x.2.1.length x.2.2.2), (11, .int .i64 (x.1 : Nat))]) : (Nat × List Int × Option Addr × Nat) → List (Nat × Go.Value)) x.1) x.2) (fun x => ((fun x => [ints 5 .u8 x.2.2.1 x.2.2.2 x.2.1, A]) : (Nat × List Int × Option Addr × Nat) → List Go.Sl.HP) x.1) (((0, [], none, 0)), fun j => ([Value.slice a n c, iv row0, Value.slice a2 n2 c2, Value.slice a3 n3 c3, tu, tu, tu, tu, Value.bool false, uv ((16 : Int) + (↑xx1 : Int)), Value.slice none (0 : Nat) (0 : Nat), iv 0, tu, tu, tu, tu, tu, tu, tu, iv row0, iv (↑xx1 : Int), iv ((16 : Int) + (↑xx1 : Int)), uv ((16 : Int) + (↑xx1 : Int)), tu, tu, tu, tu, tu, tu, tu, tu, tu, tu, tu, tu, tu, tu, tu, tu, tu, tu, tu, tu, tu, tu, tu, tu, tu, tu, tu, tu, tu, tu, tu, tu, tu, tu, tu, tu, tu, tu, tu, tu, tu, tu, tu, tu, tu, tu, tu, tu, tu, tu, tu, tu, tu, tu, tu, tu, tu, tu, tu, tu, tu, tu, tu] : List Value).getD j undef) (by kernel_rfl) (by kernel_rfl) ?_ ?_)
  · exact ⟨Nat.zero_le _, rfl, rfl⟩
  rintro ⟨⟨i, l, la, lc⟩, J⟩ ⟨hi, hl, hll⟩ ih
  dsimp only at hi hl hll
  (focus
    refine Xg.At.same (T' := [Value.slice a n c, iv row0, Value.slice a2 n2 c2, Value.slice a3 n3 c3, tu, tu, tu, tu, Value.bool false, uv ((16 : Int) + (↑xx1 : Int)), Value.slice la l.length lc, iv (↑i : Int), J 12, tu, tu, tu, tu, tu, tu, iv row0, iv (↑xx1 : Int), iv ((16 : Int) + (↑xx1 : Int)), uv ((16 : Int) + (↑xx1 : Int)), J 23, J 24, J 25, J 26, J 27, J 28, J 29, J 30, J 31, J 32, J 33, J 34, J 35, J 36, J 37, J 38, J 39, tu, tu, tu, tu, tu, tu, tu, tu, tu, tu, tu, tu, tu, tu, tu, tu, tu, tu, tu, tu, tu, tu, tu, tu, tu, tu, tu, tu, tu, tu, tu, tu, tu, tu, tu, tu, tu, tu, tu, tu, tu, tu, tu, tu, tu, tu]) (L' := [ints (5 : TypeId) IntKind.u8 ((i, l, la, lc), J).fst.snd.snd.fst ((i, l, la, lc), J).fst.snd.snd.snd ((i, l, la, lc), J).fst.snd.fst, A]) (by kernel_rfl) rfl ?_)
  by_cases hlt : i < 10
  · by_cases hc : i < n2
    · have hb := hB2 i hc
      have e : tenL (16 + (xx1 : Int)) cs n2 (i + 1) = l ++ [16 + (xx1 : Int), cs.getD i 0, 1, 0] := by rw [tenL, if_pos hc, hl]
      (focus
        refine Xg.at_seq ?_
        refine Xg.at_seq ?_
        refine Xg.at_region ?_
        refine Xg.ops_op (by kernel_rfl) (Xg.opx_pure ((iv (↑i : Int))) rfl (fun _ => by kernel_rfl) ?_)
        refine Xg.ops_op (by kernel_rfl) (Xg.opx_pure (.bool (decide ((((↑i : Int)) : Int) < ((10 : Int))))) rfl (fun _ => by kernel_rfl) ?_)
        refine Xg.ops_nil ?_
        refine Xg.at_true (t := decide (((↑i : Int) < (10 : Int)))) (by kernel_rfl) (decide_eq_true (by omega)) ?_
        refine Xg.at_skip ?_
        refine Xg.at_seq ?_
        refine Xg.at_block ?_
        refine Xg.at_seq ?_
        refine Xg.at_region ?_
        refine Xg.ops_op (by kernel_rfl) (Xg.opx_pure ((uv 0)) rfl (fun _ => by kernel_rfl) ?_)
        refine Xg.ops_nil ?_
        refine Xg.at_seq ?_
        refine Xg.at_seq ?_
        refine Xg.at_region ?_
        refine Xg.ops_op (by kernel_rfl) (Xg.opx_pure ((iv (↑i : Int))) rfl (fun _ => by kernel_rfl) ?_)
        refine Xg.ops_op (by kernel_rfl) (Xg.opx_pure ((Value.slice a2 n2 c2)) rfl (fun _ => by kernel_rfl) ?_)
        refine Xg.ops_op (by kernel_rfl) (Xg.opx_pure ((iv (↑n2 : Int))) rfl (fun _ => by kernel_rfl) ?_)
        refine Xg.ops_op (by kernel_rfl) (Xg.opx_pure (.bool (decide ((((↑i : Int)) : Int) < ((↑n2 : Int))))) rfl (fun _ => by kernel_rfl) ?_)
        refine Xg.ops_nil ?_
        refine Xg.at_true (t := decide (((↑i : Int) < (↑n2 : Int)))) (by kernel_rfl) (decide_eq_true (by omega)) ?_
        refine Xg.at_region ?_
        refine Xg.ops_op (by kernel_rfl) (Xg.opx_pure ((Value.slice a2 n2 c2)) rfl (fun _ => by kernel_rfl) ?_)
        refine Xg.ops_op (by kernel_rfl) (Xg.opx_pure ((iv (↑i : Int))) rfl (fun _ => by kernel_rfl) ?_)
        refine Xg.ops_op (by kernel_rfl) (Xg.opx_rd 1 (.pointer (some (Addr.mk (Xg.blk a2) (offA a2 + i) none))) rfl hR2 (by kernel_rfl) (Xg.run_ix_rd (elem := 5) (kd := .i64) (e := ((↑i : Int))) 1 i (offA a2 + i) (by kernel_rfl) (by kernel_rfl) (by kernel_rfl) (by kernel_rfl) rfl (by omega) (by simp only [List.length_map]; omega) (by omega)) ?_)
        refine Xg.ops_op (by kernel_rfl) (Xg.opx_rd 1 (uv (cs.getD i (0 : Int))) rfl hR2 (by kernel_rfl) (Xg.run_load_rd (off0 := (offA a2 + i)) i (by kernel_rfl) (by omega) (Xg.get_ints (by omega)) (by kernel_rfl)) ?_)
        refine Xg.ops_op (by kernel_rfl) (Xg.opx_pure ((uv (cs.getD i (0 : Int)))) rfl (fun _ => by kernel_rfl) ?_)
        refine Xg.ops_nil ?_
        refine Xg.at_region ?_
        refine Xg.ops_op (by kernel_rfl) (Xg.opx_pure ((Value.slice la l.length lc)) rfl (fun _ => by kernel_rfl) ?_)
        refine Xg.ops_op (by kernel_rfl) (Xg.opx_pure ((uv ((16 : Int) + (↑xx1 : Int)))) rfl (fun _ => by kernel_rfl) ?_)
        refine Xg.ops_op (by kernel_rfl) (Xg.opx_pure ((uv (cs.getD i (0 : Int)))) rfl (fun _ => by kernel_rfl) ?_)
        refine Xg.ops_op (by kernel_rfl) (Xg.opx_bs (elem := 5) 1 [uv ((16 : Int) + (↑xx1 : Int)), uv (cs.getD i (0 : Int)), uv 1, uv 0] [uv ((16 : Int) + (↑xx1 : Int)), uv (cs.getD i (0 : Int)), uv 1, uv 0] (by kernel_rfl) (by kernel_rfl) (by decide) rfl (by kernel_rfl) (by kernel_rfl) (by kernel_rfl) (by kernel_rfl) fun xb1 => ?_)
        refine Xg.ops_op (by kernel_rfl) (Xg.opx_append_ints (kd := .u8) (yv := (Value.slice (some (Addr.mk xb1 (0 : Nat) none)) (4 : Nat) (4 : Nat))) (m := ((4 : Nat))) (xs := (((i, l, la, lc), J).fst.snd.fst)) (elem := 5) 1 1 [(16 : Int) + (↑xx1 : Int), cs.getD i (0 : Int), (1 : Int), (0 : Int)] rfl (by kernel_rfl) (by kernel_rfl) (by kernel_rfl) (by kernel_rfl) (by first | rfl | assumption | omega | (simp; done) | (simp; omega)) (fun _ hS => Xg.row_rd hS 0 rfl (by kernel_rfl)) (by first | omega | (simp only [List.length_nil, List.length_cons]; omega) | (simp; omega)) (by first | omega | (simp only [List.length_nil, List.length_cons]; omega) | (simp; omega)) fun xa1 xc1 => ?_)
        have xl1 : ((((i, l, la, lc), J).fst.snd.fst) ++ [(16 : Int) + (↑xx1 : Int), cs.getD i (0 : Int), (1 : Int), (0 : Int)] : List Int).length = ((((i, l, la, lc), J).fst.snd.fst) : List Int).length + ((4 : Nat)) := by first | (simp; done) | (simp; omega)
        refine Xg.ops_op (by kernel_rfl) (Xg.opx_pure ((Value.slice xa1 (l ++ [(16 : Int) + (↑xx1 : Int), cs.getD i (0 : Int), (1 : Int), (0 : Int)]).length xc1)) rfl (fun _ => by kernel_rfl) ?_)
        refine Xg.ops_nil ?_
        refine Xg.at_inBlock ?_
        refine Xg.at_region ?_
        refine Xg.ops_op (by kernel_rfl) (Xg.opx_pure ((iv (↑i : Int))) rfl (fun _ => by kernel_rfl) ?_)
        refine Xg.ops_op (by kernel_rfl) (Xg.opx_int .i64 (IntKind.wrap .i64 (((↑i : Int) + (1 : Int)))) rfl (fun _ => by kernel_rfl) (Xg.wrap_i64_in (by omega)) ?_)
        refine Xg.ops_op (by kernel_rfl) (Xg.opx_pure ((iv ((↑i : Int) + (1 : Int)))) rfl (fun _ => by kernel_rfl) ?_)
        refine Xg.ops_nil ?_
        refine Xg.at_inLoop ?_)
      (focus
        refine Xg.at_keep [1, 2] (by kernel_rfl) ?_
        refine Xs.same ?_ (fun J9 => ih (((i + 1, l ++ [16 + (xx1 : Int), cs.getD i 0, 1, 0], xa1, xc1)), J9) ?_ ?_) (by kernel_rfl))
      · rfl
      · exact ⟨by dsimp only; omega, e.symm, by dsimp only; rw [List.length_append, hll]; rfl⟩
      · dsimp only; omega
    · have e : tenL (16 + (xx1 : Int)) cs n2 (i + 1) = l ++ [16 + (xx1 : Int), 0, 1, 0] := by rw [tenL, if_neg hc, hl]
      (focus
        refine Xg.at_seq ?_
        refine Xg.at_seq ?_
        refine Xg.at_region ?_
        refine Xg.ops_op (by kernel_rfl) (Xg.opx_pure ((iv (↑i : Int))) rfl (fun _ => by kernel_rfl) ?_)
        refine Xg.ops_op (by kernel_rfl) (Xg.opx_pure (.bool (decide ((((↑i : Int)) : Int) < ((10 : Int))))) rfl (fun _ => by kernel_rfl) ?_)
        refine Xg.ops_nil ?_
        refine Xg.at_true (t := decide (((↑i : Int) < (10 : Int)))) (by kernel_rfl) (decide_eq_true (by omega)) ?_
        refine Xg.at_skip ?_
        refine Xg.at_seq ?_
        refine Xg.at_block ?_
        refine Xg.at_seq ?_
        refine Xg.at_region ?_
        refine Xg.ops_op (by kernel_rfl) (Xg.opx_pure ((uv 0)) rfl (fun _ => by kernel_rfl) ?_)
        refine Xg.ops_nil ?_
        refine Xg.at_seq ?_
        refine Xg.at_seq ?_
        refine Xg.at_region ?_
        refine Xg.ops_op (by kernel_rfl) (Xg.opx_pure ((iv (↑i : Int))) rfl (fun _ => by kernel_rfl) ?_)
        refine Xg.ops_op (by kernel_rfl) (Xg.opx_pure ((Value.slice a2 n2 c2)) rfl (fun _ => by kernel_rfl) ?_)
        refine Xg.ops_op (by kernel_rfl) (Xg.opx_pure ((iv (↑n2 : Int))) rfl (fun _ => by kernel_rfl) ?_)
        refine Xg.ops_op (by kernel_rfl) (Xg.opx_pure (.bool (decide ((((↑i : Int)) : Int) < ((↑n2 : Int))))) rfl (fun _ => by kernel_rfl) ?_)
        refine Xg.ops_nil ?_
        refine Xg.at_false (t := decide (((↑i : Int) < (↑n2 : Int)))) (by kernel_rfl) (decide_eq_false (by omega)) ?_
        refine Xg.at_skip ?_
        refine Xg.at_region ?_
        refine Xg.ops_op (by kernel_rfl) (Xg.opx_pure ((Value.slice la l.length lc)) rfl (fun _ => by kernel_rfl) ?_)
        refine Xg.ops_op (by kernel_rfl) (Xg.opx_pure ((uv ((16 : Int) + (↑xx1 : Int)))) rfl (fun _ => by kernel_rfl) ?_)
        refine Xg.ops_op (by kernel_rfl) (Xg.opx_pure ((uv 0)) rfl (fun _ => by kernel_rfl) ?_)
        refine Xg.ops_op (by kernel_rfl) (Xg.opx_bs (elem := 5) 1 [uv ((16 : Int) + (↑xx1 : Int)), uv 0, uv 1, uv 0] [uv ((16 : Int) + (↑xx1 : Int)), uv 0, uv 1, uv 0] (by kernel_rfl) (by kernel_rfl) (by decide) rfl (by kernel_rfl) (by kernel_rfl) (by kernel_rfl) (by kernel_rfl) fun xb1 => ?_)
        refine Xg.ops_op (by kernel_rfl) (Xg.opx_append_ints (kd := .u8) (yv := (Value.slice (some (Addr.mk xb1 (0 : Nat) none)) (4 : Nat) (4 : Nat))) (m := ((4 : Nat))) (xs := (((i, l, la, lc), J).fst.snd.fst)) (elem := 5) 1 1 [(16 : Int) + (↑xx1 : Int), (0 : Int), (1 : Int), (0 : Int)] rfl (by kernel_rfl) (by kernel_rfl) (by kernel_rfl) (by kernel_rfl) (by first | rfl | assumption | omega | (simp; done) | (simp; omega)) (fun _ hS => Xg.row_rd hS 0 rfl (by kernel_rfl)) (by first | omega | (simp only [List.length_nil, List.length_cons]; omega) | (simp; omega)) (by first | omega | (simp only [List.length_nil, List.length_cons]; omega) | (simp; omega)) fun xa1 xc1 => ?_)
        have xl1 : ((((i, l, la, lc), J).fst.snd.fst) ++ [(16 : Int) + (↑xx1 : Int), (0 : Int), (1 : Int), (0 : Int)] : List Int).length = ((((i, l, la, lc), J).fst.snd.fst) : List Int).length + ((4 : Nat)) := by first | (simp; done) | (simp; omega)
        refine Xg.ops_op (by kernel_rfl) (Xg.opx_pure ((Value.slice xa1 (l ++ [(16 : Int) + (↑xx1 : Int), (0 : Int), (1 : Int), (0 : Int)]).length xc1)) rfl (fun _ => by kernel_rfl) ?_)
        refine Xg.ops_nil ?_
        refine Xg.at_inBlock ?_
        refine Xg.at_region ?_
        refine Xg.ops_op (by kernel_rfl) (Xg.opx_pure ((iv (↑i : Int))) rfl (fun _ => by kernel_rfl) ?_)
        refine Xg.ops_op (by kernel_rfl) (Xg.opx_int .i64 (IntKind.wrap .i64 (((↑i : Int) + (1 : Int)))) rfl (fun _ => by kernel_rfl) (Xg.wrap_i64_in (by omega)) ?_)
        refine Xg.ops_op (by kernel_rfl) (Xg.opx_pure ((iv ((↑i : Int) + (1 : Int)))) rfl (fun _ => by kernel_rfl) ?_)
        refine Xg.ops_nil ?_
        refine Xg.at_inLoop ?_)
      (focus
        refine Xg.at_keep [1, 2] (by kernel_rfl) ?_
        refine Xs.same ?_ (fun J9 => ih (((i + 1, l ++ [16 + (xx1 : Int), 0, 1, 0], xa1, xc1)), J9) ?_ ?_) (by kernel_rfl))
      · rfl
      · exact ⟨by dsimp only; omega, e.symm, by dsimp only; rw [List.length_append, hll]; rfl⟩
      · dsimp only; omega
  · clear ih
    have hi10 : i = 10 := by omega
    subst hi10
    refine at_nil_ints 5 .u8 ?_
    (focus
      refine Xg.at_seq ?_
      refine Xg.at_seq ?_
      refine Xg.at_region ?_
      refine Xg.ops_op (by kernel_rfl) (Xg.opx_pure ((iv 10)) rfl (fun _ => by kernel_rfl) ?_)
      refine Xg.ops_op (by kernel_rfl) (Xg.opx_pure ((Value.bool false)) rfl (fun _ => by kernel_rfl) ?_)
      refine Xg.ops_nil ?_
      refine Xg.at_false (t := false) (by kernel_rfl) rfl ?_
      refine Xg.at_exit rfl ?_
      refine Xg.at_seq ?_
      refine Xg.at_region ?_
      refine Xg.ops_op (by kernel_rfl) (Xg.opx_pure ((Value.slice none (0 : Nat) (0 : Nat))) rfl (fun _ => by kernel_rfl) ?_)
      refine Xg.ops_nil ?_
      refine Xg.at_seq ?_
      refine Xg.at_region ?_
      refine Xg.ops_op (by kernel_rfl) (Xg.opx_pure ((Value.slice none (0 : Nat) (0 : Nat))) rfl (fun _ => by kernel_rfl) ?_)
      refine Xg.ops_op (by kernel_rfl) (Xg.opx_pure ((Value.slice la l.length lc)) rfl (fun _ => by kernel_rfl) ?_)
      refine Xg.ops_op (by kernel_rfl) (Xg.opx_append_ints (kd := .u8) (yv := (Value.slice la l.length lc)) (m := l.length) (xs := []) (elem := 5) 0 1 ((((10 : Nat), l, la, lc), J).fst.snd.fst) rfl (by kernel_rfl) (by kernel_rfl) (by kernel_rfl) (by kernel_rfl) (by first | rfl | assumption | omega | (simp; done) | (simp; omega)) (fun _ hS => Xg.own_rd hS 1 rfl) (by first | omega | (simp only [List.length_nil, List.length_cons]; omega) | (simp; omega)) (by first | omega | (simp only [List.length_nil, List.length_cons]; omega) | (simp; omega)) fun xa1 xc1 => ?_)
      have xl1 : ([] ++ ((((10 : Nat), l, la, lc), J).fst.snd.fst) : List Int).length = ([] : List Int).length + l.length := by first | (simp; done) | (simp; omega)
      refine Xg.ops_op (by kernel_rfl) (Xg.opx_pure ((Value.slice xa1 ([] ++ l).length xc1)) rfl (fun _ => by kernel_rfl) ?_)
      refine Xg.ops_nil ?_
      refine Xg.at_seq ?_
      refine Xg.at_seq ?_
      refine Xg.at_region ?_
      refine Xg.ops_op (by kernel_rfl) (Xg.opx_pure ((iv 0)) rfl (fun _ => by kernel_rfl) ?_)
      refine Xg.ops_nil ?_
      refine Xg.at_block ?_)
    (focus
      refine Xg.at_rounds_inv (α := (Nat × List Int × Option Addr × Nat) × (Nat → Value)) (fun x => ((fun x => x.1 ≤ m ∧ x.2.1 = l ++ moreL (16 + (xx1 : Int)) ms x.1 ∧ x.2.1.length = 40 + 4 * x.1) : (Nat × List Int × Option Addr × Nat) → Prop) x.1) (fun x => ((fun x => m - x.1) : (Nat × List Int × Option Addr × Nat) → Nat) x.1) (fun x => Xg.headT [Value.slice a n c, iv row0, Value.slice a2 n2 c2, Value.slice a3 n3 c3, tu, tu, tu, tu, Value.bool false, uv ((16 : Int) + (↑xx1 : Int)), Value.slice la l.length lc, iv 10, (((10 : Nat), l, la, lc), J).snd (12 : Nat), Value.slice xa1 ([] ++ l).length xc1, iv 0, tu, tu, tu, tu, iv row0, iv (↑xx1 : Int), iv ((16 : Int) + (↑xx1 : Int)), uv ((16 : Int) + (↑xx1 : Int)), iv 10, Value.bool false, (((10 : Nat), l, la, lc), J).snd (25 : Nat), (((10 : Nat), l, la, lc), J).snd (26 : Nat), (((10 : Nat), l, la, lc), J).snd (27 : Nat), (((10 : Nat), l, la, lc), J).snd (28 : Nat), (((10 : Nat), l, la, lc), J).snd (29 : Nat), (((10 : Nat), l, la, lc), J).snd (30 : Nat), (((10 : Nat), l, la, lc), J).snd (31 : Nat), (((10 : Nat), l, la, lc), J).snd (32 : Nat), (((10 : Nat), l, la, lc), J).snd (33 : Nat), (((10 : Nat), l, la, lc), J).snd (34 : Nat), (((10 : Nat), l, la, lc), J).snd (35 : Nat), (((10 : Nat), l, la, lc), J).snd (36 : Nat), (((10 : Nat), l, la, lc), J).snd (37 : Nat), (((10 : Nat), l, la, lc), J).snd (38 : Nat), (((10 : Nat), l, la, lc), J).snd (39 : Nat), Value.slice none (0 : Nat) (0 : Nat), Value.slice la l.length lc, Value.slice xa1 ([] ++ l).length xc1, tu, tu, tu, tu, tu, tu, tu, tu, tu, tu, tu, tu, tu, tu, tu, tu, tu, tu, tu, tu, tu, tu, tu, tu, tu, tu, tu, tu, tu, tu, tu, tu, tu, tu, tu, tu, tu, tu, tu, tu, tu, tu, tu] [43, 44, 45, 46, 47, 48, 49, 50, 51, 52, 53, 54, 55, 56, 57, 58, 59, 60] (((fun x => [(13, .slice x.2.2.1 x.2.1.length x.2.2.2), (14, .int .i64 (x.1 : Nat))]) : (Nat × List Int × Option Addr × Nat) → List (Nat × Go.Value)) x.1) x.2) (fun x => ((fun x => [ints 5 .u8 x.2.2.1 x.2.2.2 x.2.1, ints 5 .u8 la lc l, A]) : (Nat × List Int × Option Addr × Nat) → List Go.Sl.HP) x.1) (((0, l, xa1, xc1)), fun j => ([Value.slice a n c, iv row0, Value.slice a2 n2 c2, Value.slice a3 n3 c3, tu, tu, tu, tu, Value.bool false, uv ((16 : Int) + (↑xx1 : Int)), Value.slice la l.length lc, iv 10, (((10 : Nat), l, la, lc), J).snd (12 : Nat), Value.slice xa1 ([] ++ l).length xc1, iv 0, tu, tu, tu, tu, iv row0, iv (↑xx1 : Int), iv ((16 : Int) + (↑xx1 : Int)), uv ((16 : Int) + (↑xx1 : Int)), iv 10, Value.bool false, (((10 : Nat), l, la, lc), J).snd (25 : Nat), (((10 : Nat), l, la, lc), J).snd (26 : Nat), (((10 : Nat), l, la, lc), J).snd (27 : Nat), (((10 : Nat), l, la, lc), J).snd (28 : Nat), (((10 : Nat), l, la, lc), J).snd (29 : Nat), (((10 : Nat), l, la, lc), J).snd (30 : Nat), (((10 : Nat), l, la, lc), J).snd (31 : Nat), (((10 : Nat), l, la, lc), J).snd (32 : Nat), (((10 : Nat), l, la, lc), J).snd (33 : Nat), (((10 : Nat), l, la, lc), J).snd (34 : Nat), (((10 : Nat), l, la, lc), J).snd (35 : Nat), (((10 : Nat), l, la, lc), J).snd (36 : Nat), (((10 : Nat), l, la, lc), J).snd (37 : Nat), (((10 : Nat), l, la, lc), J).snd (38 : Nat), (((10 : Nat), l, la, lc), J).snd (39 : Nat), Value.slice none (0 : Nat) (0 : Nat), Value.slice la l.length lc, Value.slice xa1 ([] ++ l).length xc1, tu, tu, tu, tu, tu, tu, tu, tu, tu, tu, tu, tu, tu, tu, tu, tu, tu, tu, tu, tu, tu, tu, tu, tu, tu, tu, tu, tu, tu, tu, tu, tu, tu, tu, tu, tu, tu, tu, tu, tu, tu, tu, tu] : List Value).getD j undef) (by kernel_rfl) (by kernel_rfl) ?_ ?_)
    · exact ⟨Nat.zero_le _, (List.append_nil l).symm, by dsimp only; omega⟩
    rintro ⟨⟨i, l2, la2, lc2⟩, J2⟩ ⟨hi2, hl2, hll2⟩ ih
    dsimp only at hi2 hl2 hll2
    (focus
      refine Xg.At.same (T' := [Value.slice a n c, iv row0, Value.slice a2 n2 c2, Value.slice a3 n3 c3, tu, tu, tu, tu, Value.bool false, uv ((16 : Int) + (↑xx1 : Int)), Value.slice la l.length lc, iv 10, (((10 : Nat), l, la, lc), J).snd (12 : Nat), Value.slice la2 l2.length lc2, iv (↑i : Int), tu, tu, tu, tu, iv row0, iv (↑xx1 : Int), iv ((16 : Int) + (↑xx1 : Int)), uv ((16 : Int) + (↑xx1 : Int)), iv 10, Value.bool false, (((10 : Nat), l, la, lc), J).snd (25 : Nat), (((10 : Nat), l, la, lc), J).snd (26 : Nat), (((10 : Nat), l, la, lc), J).snd (27 : Nat), (((10 : Nat), l, la, lc), J).snd (28 : Nat), (((10 : Nat), l, la, lc), J).snd (29 : Nat), (((10 : Nat), l, la, lc), J).snd (30 : Nat), (((10 : Nat), l, la, lc), J).snd (31 : Nat), (((10 : Nat), l, la, lc), J).snd (32 : Nat), (((10 : Nat), l, la, lc), J).snd (33 : Nat), (((10 : Nat), l, la, lc), J).snd (34 : Nat), (((10 : Nat), l, la, lc), J).snd (35 : Nat), (((10 : Nat), l, la, lc), J).snd (36 : Nat), (((10 : Nat), l, la, lc), J).snd (37 : Nat), (((10 : Nat), l, la, lc), J).snd (38 : Nat), (((10 : Nat), l, la, lc), J).snd (39 : Nat), Value.slice none (0 : Nat) (0 : Nat), Value.slice la l.length lc, Value.slice xa1 ([] ++ l).length xc1, J2 43, J2 44, J2 45, J2 46, J2 47, J2 48, J2 49, J2 50, J2 51, J2 52, J2 53, J2 54, J2 55, J2 56, J2 57, J2 58, J2 59, J2 60, tu, tu, tu, tu, tu, tu, tu, tu, tu, tu, tu, tu, tu, tu, tu, tu, tu, tu, tu, tu, tu, tu, tu, tu, tu]) (L' := [ints (5 : TypeId) IntKind.u8 ((i, l2, la2, lc2), J2).fst.snd.snd.fst ((i, l2, la2, lc2), J2).fst.snd.snd.snd ((i, l2, la2, lc2), J2).fst.snd.fst, ints (5 : TypeId) IntKind.u8 la lc l, A]) (by kernel_rfl) rfl ?_)
    by_cases hlt2 : i < m
    · have hb := hB3 i (by omega)
      have hi3 : i < n3 := by omega
      have hi30 : i < 30 := by omega
      have e : l ++ moreL (16 + (xx1 : Int)) ms (i + 1) = l2 ++ [16 + (xx1 : Int), ms.getD i 0, 1, 16] := by rw [moreL, hl2, List.append_assoc]
      (focus
        refine Xg.at_seq ?_
        refine Xg.at_seq ?_
        refine Xg.at_region ?_
        refine Xg.ops_op (by kernel_rfl) (Xg.opx_pure ((iv (↑i : Int))) rfl (fun _ => by kernel_rfl) ?_)
        refine Xg.ops_op (by kernel_rfl) (Xg.opx_pure ((Value.slice a3 n3 c3)) rfl (fun _ => by kernel_rfl) ?_)
        refine Xg.ops_op (by kernel_rfl) (Xg.opx_pure ((iv (↑n3 : Int))) rfl (fun _ => by kernel_rfl) ?_)
        refine Xg.ops_op (by kernel_rfl) (Xg.opx_pure (.bool (decide ((((↑i : Int)) : Int) < ((↑n3 : Int))))) rfl (fun _ => by kernel_rfl) ?_)
        refine Xg.ops_op (by kernel_rfl) (Xg.opx_pure ((Value.bool (decide ((↑i : Int) < (↑n3 : Int))))) rfl (fun _ => by kernel_rfl) ?_)
        refine Xg.ops_flag (j := 47) (c := (decide ((↑i : Int) < (↑n3 : Int)))) (by kernel_rfl) (fun _ => ?_) (fun xh2 => absurd (of_decide_eq_false xh2) (by omega))
        refine Xg.ops_op (by kernel_rfl) (Xg.opx_pure ((iv (↑i : Int))) rfl (fun _ => by kernel_rfl) ?_)
        refine Xg.ops_op (by kernel_rfl) (Xg.opx_pure (.bool (decide ((((↑i : Int)) : Int) < ((30 : Int))))) rfl (fun _ => by kernel_rfl) ?_)
        refine Xg.ops_flag (j := 49) (c := (decide ((↑i : Int) < (30 : Int)))) (by kernel_rfl) (fun _ => ?_) (fun xh2 => absurd (of_decide_eq_false xh2) (by omega))
        refine Xg.ops_op (by kernel_rfl) (Xg.opx_pure ((Value.bool true)) rfl (fun _ => by kernel_rfl) ?_)
        refine Xg.ops_nil ?_
        refine Xg.at_true (t := true) (by kernel_rfl) rfl ?_
        refine Xg.at_skip ?_
        refine Xg.at_seq ?_
        refine Xg.at_block ?_
        refine Xg.at_region ?_
        refine Xg.ops_op (by kernel_rfl) (Xg.opx_pure ((Value.slice la2 l2.length lc2)) rfl (fun _ => by kernel_rfl) ?_)
        refine Xg.ops_op (by kernel_rfl) (Xg.opx_pure ((uv ((16 : Int) + (↑xx1 : Int)))) rfl (fun _ => by kernel_rfl) ?_)
        refine Xg.ops_op (by kernel_rfl) (Xg.opx_pure ((Value.slice a3 n3 c3)) rfl (fun _ => by kernel_rfl) ?_)
        refine Xg.ops_op (by kernel_rfl) (Xg.opx_pure ((iv (↑i : Int))) rfl (fun _ => by kernel_rfl) ?_)
        refine Xg.ops_op (by kernel_rfl) (Xg.opx_rd 2 (.pointer (some (Addr.mk (Xg.blk a3) (offA a3 + i) none))) rfl hR3 (by kernel_rfl) (Xg.run_ix_rd (elem := 5) (kd := .i64) (e := ((↑i : Int))) 1 i (offA a3 + i) (by kernel_rfl) (by kernel_rfl) (by kernel_rfl) (by kernel_rfl) rfl (by omega) (by simp only [List.length_map]; omega) (by omega)) ?_)
        refine Xg.ops_op (by kernel_rfl) (Xg.opx_rd 2 (uv (ms.getD i (0 : Int))) rfl hR3 (by kernel_rfl) (Xg.run_load_rd (off0 := (offA a3 + i)) i (by kernel_rfl) (by omega) (Xg.get_ints (by omega)) (by kernel_rfl)) ?_)
        refine Xg.ops_op (by kernel_rfl) (Xg.opx_bs (elem := 5) 1 [uv ((16 : Int) + (↑xx1 : Int)), uv (ms.getD i (0 : Int)), uv 1, uv 16] [uv ((16 : Int) + (↑xx1 : Int)), uv (ms.getD i (0 : Int)), uv 1, uv 16] (by kernel_rfl) (by kernel_rfl) (by decide) rfl (by kernel_rfl) (by kernel_rfl) (by kernel_rfl) (by kernel_rfl) fun xb1 => ?_)
        refine Xg.ops_op (by kernel_rfl) (Xg.opx_append_ints (kd := .u8) (yv := (Value.slice (some (Addr.mk xb1 (0 : Nat) none)) (4 : Nat) (4 : Nat))) (m := ((4 : Nat))) (xs := (((i, l2, la2, lc2), J2).fst.snd.fst)) (elem := 5) 1 1 [(16 : Int) + (↑xx1 : Int), ms.getD i (0 : Int), (1 : Int), (16 : Int)] rfl (by kernel_rfl) (by kernel_rfl) (by kernel_rfl) (by kernel_rfl) (by first | rfl | assumption | omega | (simp; done) | (simp; omega)) (fun _ hS => Xg.row_rd hS 0 rfl (by kernel_rfl)) (by first | omega | (simp only [List.length_nil, List.length_cons]; omega) | (simp; omega)) (by first | omega | (simp only [List.length_nil, List.length_cons]; omega) | (simp; omega)) fun xa2 xc2 => ?_)
        have xl2 : ((((i, l2, la2, lc2), J2).fst.snd.fst) ++ [(16 : Int) + (↑xx1 : Int), ms.getD i (0 : Int), (1 : Int), (16 : Int)] : List Int).length = ((((i, l2, la2, lc2), J2).fst.snd.fst) : List Int).length + ((4 : Nat)) := by first | (simp; done) | (simp; omega)
        refine Xg.ops_op (by kernel_rfl) (Xg.opx_pure ((Value.slice xa2 (l2 ++ [(16 : Int) + (↑xx1 : Int), ms.getD i (0 : Int), (1 : Int), (16 : Int)]).length xc2)) rfl (fun _ => by kernel_rfl) ?_)
        refine Xg.ops_nil ?_
        refine Xg.at_inBlock ?_
        refine Xg.at_region ?_
        refine Xg.ops_op (by kernel_rfl) (Xg.opx_pure ((iv (↑i : Int))) rfl (fun _ => by kernel_rfl) ?_)
        refine Xg.ops_op (by kernel_rfl) (Xg.opx_int .i64 (IntKind.wrap .i64 (((↑i : Int) + (1 : Int)))) rfl (fun _ => by kernel_rfl) (Xg.wrap_i64_in (by omega)) ?_)
        refine Xg.ops_op (by kernel_rfl) (Xg.opx_pure ((iv ((↑i : Int) + (1 : Int)))) rfl (fun _ => by kernel_rfl) ?_)
        refine Xg.ops_nil ?_
        refine Xg.at_inLoop ?_)
      (focus
        refine Xg.at_keep [1, 2, 3] (by kernel_rfl) ?_
        refine Xs.same ?_ (fun J9 => ih (((i + 1, l2 ++ [16 + (xx1 : Int), ms.getD i 0, 1, 16], xa2, xc2)), J9) ?_ ?_) (by kernel_rfl))
      · rfl
      · exact ⟨by dsimp only; omega, e.symm, by dsimp only; rw [List.length_append, hll2]; rfl⟩
      · dsimp only; omega
    · clear ih
      have him : i = m := by omega
      subst him
      have htb := tenL_bd (16 + (xx1 : Int)) (by omega) cs n2 hB2 10
      have hmb := moreL_bd (16 + (xx1 : Int)) (by omega) ms n3 hB3 i (by omega)
      have hsame : ∀ b1 p1 b2 p2 t1 t2 d1 d2 xs' ys', Shot (loneS b1 p1 t1 d1 (tl xs) la l.length lc l) xs' → Shot (loneS b2 p2 t2 d2 (tl xs) la2 l2.length lc2 l2) ys' → xs' = ys' := fun b1 p1 b2 p2 t1 t2 d1 d2 xs' ys' h1 h2 =>
        ten_same (16 + (xx1 : Int)) (by omega) cs ms n2 i (by omega) b1 p1 b2 p2 t1 t2 d1 d2 (tl xs) la la2 lc lc2 l l2 hl (by rw [hl2, hl]) xs' ys' h1 h2
      have hsh1 := fun b pb ta tc => shot_parts _ (loneS b pb ta tc (tl xs) la l.length lc l) (loneS_ok b pb ta tc (tl xs) la l.length lc l (ints 5 .u8 la lc l) _ rfl (tl_len xs) (tlT_bd hn hB) rfl (by unfold maxLen; omega) reads_own (fun j hj => getD_bd (by rw [hl]; exact htb) j hj))
      have hsh2 := fun b pb ta tc => shot_parts _ (loneS b pb ta tc (tl xs) la2 l2.length lc2 l2) (loneS_ok b pb ta tc (tl xs) la2 l2.length lc2 l2 (ints 5 .u8 la2 lc2 l2) _ rfl (tl_len xs) (tlT_bd hn hB) rfl (by unfold maxLen; omega) reads_own (fun j hj => getD_bd (by rw [hl2, hl]; intro z hz; rcases List.mem_append.mp hz with h | h; exact htb z h; exact hmb z h) j hj))
      obtain ⟨ts, hts⟩ : ∃ ts, tl xs = ts := ⟨_, rfl⟩
      rw [hts] at hlo hsame
      simp only [hts] at hsh1 hsh2
      clear hts
      (focus
        refine Xg.at_seq ?_
        refine Xg.at_seq ?_
        refine Xg.at_region ?_
        refine Xg.ops_op (by kernel_rfl) (Xg.opx_pure ((iv (↑i : Int))) rfl (fun _ => by kernel_rfl) ?_)
        refine Xg.ops_op (by kernel_rfl) (Xg.opx_pure ((Value.slice a3 n3 c3)) rfl (fun _ => by kernel_rfl) ?_)
        refine Xg.ops_op (by kernel_rfl) (Xg.opx_pure ((iv (↑n3 : Int))) rfl (fun _ => by kernel_rfl) ?_)
        refine Xg.ops_op (by kernel_rfl) (Xg.opx_pure (.bool (decide ((((↑i : Int)) : Int) < ((↑n3 : Int))))) rfl (fun _ => by kernel_rfl) ?_)
        refine Xg.ops_op (by kernel_rfl) (Xg.opx_pure ((Value.bool (decide ((↑i : Int) < (↑n3 : Int))))) rfl (fun _ => by kernel_rfl) ?_)
        refine Xg.ops_flag (j := 47) (c := (decide ((↑i : Int) < (↑n3 : Int)))) (by kernel_rfl) (fun xh2 => ?_) (fun xh2 => ?_)
        replace xh2 : ((↑i : Int) < (↑n3 : Int)) := of_decide_eq_true xh2
        rotate_left
        replace xh2 : ¬ (((↑i : Int) < (↑n3 : Int))) := of_decide_eq_false xh2
        rotate_right
        refine Xg.ops_op (by kernel_rfl) (Xg.opx_pure ((iv (↑i : Int))) rfl (fun _ => by kernel_rfl) ?_)
        refine Xg.ops_op (by kernel_rfl) (Xg.opx_pure (.bool (decide ((((↑i : Int)) : Int) < ((30 : Int))))) rfl (fun _ => by kernel_rfl) ?_)
        refine Xg.ops_flag (j := 49) (c := (decide ((↑i : Int) < (30 : Int)))) (by kernel_rfl) (fun xh3 => absurd (of_decide_eq_true xh3) (by omega)) (fun _ => ?_)
        refine Xg.ops_op (by kernel_rfl) (Xg.opx_pure ((Value.bool false)) rfl (fun _ => by kernel_rfl) ?_)
        refine Xg.ops_nil ?_
        refine Xg.at_false (t := false) (by kernel_rfl) rfl ?_
        refine Xg.at_exit rfl ?_
        refine Xg.at_seq ?_
        refine Xg.at_region ?_
        refine Xg.ops_op (by kernel_rfl) (Xg.opx_pure ((Value.slice a n c)) rfl (fun _ => by kernel_rfl) ?_)
        refine Xg.ops_op (by kernel_rfl) (Xg.opx_pure ((Value.slice la l.length lc)) rfl (fun _ => by kernel_rfl) ?_)
        refine Xg.ops_op (by kernel_rfl) (Xg.opx_callE' [2] (fun xx2 => [rowR xx2.fst (130 : Int) (0 : Int) (0 : Int) (0 : Int) (0 : Int) (0 : Int) (0 : Int) (0 : Int) (228 : Int) (27 : Int) (0 : Int) (0 : Int), row xx2.snd.fst (42 : TypeId) [iv 16, Value.slice xx2.snd.snd.fst (16 : Nat) xx2.snd.snd.snd], ownS (5 : TypeId) (1 : Nat) (Value.slice xx2.snd.snd.fst (16 : Nat) xx2.snd.snd.snd) (16 : Nat) (List.map (Value.int IntKind.u8) ts), A, ints (5 : TypeId) IntKind.u8 la2 lc2 l2, ints (5 : TypeId) IntKind.u8 la lc l]) (fun _ => by kernel_rfl) (@hlo (la) (l.length) (lc)) (by kernel_rfl) (by kernel_rfl) (by kernel_rfl) fun xx2 xh3 => ?_)
        try dsimp only at xh3
        refine Xg.ops_op (by kernel_rfl) (Xg.opx_callE' [0, 1, 2, 5] (fun xx3 => [ints (5 : TypeId) IntKind.u8 xx3.fst xx3.snd.fst xx3.snd.snd, rowR xx2.fst (130 : Int) (0 : Int) (0 : Int) (0 : Int) (0 : Int) (0 : Int) (0 : Int) (0 : Int) (228 : Int) (27 : Int) (0 : Int) (0 : Int), row xx2.snd.fst (42 : TypeId) [iv 16, Value.slice xx2.snd.snd.fst (16 : Nat) xx2.snd.snd.snd], ownS (5 : TypeId) (1 : Nat) (Value.slice xx2.snd.snd.fst (16 : Nat) xx2.snd.snd.snd) (16 : Nat) (List.map (Value.int IntKind.u8) ts), ints (5 : TypeId) IntKind.u8 la lc l, A, ints (5 : TypeId) IntKind.u8 la2 lc2 l2]) (fun _ => by kernel_rfl) (@hsh1 (xx2.fst) (xx2.snd.fst) (xx2.snd.snd.fst) (xx2.snd.snd.snd)) (by kernel_rfl) (by kernel_rfl) (by kernel_rfl) fun xx3 xh4 => ?_)
        try dsimp only at xh4
        obtain ⟨xh4_0, xh4_1⟩ := xh4
        refine Xg.ops_op (by kernel_rfl) (Xg.opx_pure ((Value.tuple #[Value.slice xx3.fst xx3.snd.snd.length xx3.snd.fst, Value.bool true])) rfl (fun _ => by kernel_rfl) ?_)
        refine Xg.ops_op (by kernel_rfl) (Xg.opx_pure ((Value.slice xx3.fst xx3.snd.snd.length xx3.snd.fst)) rfl (fun _ => by kernel_rfl) ?_)
        refine Xg.ops_op (by kernel_rfl) (Xg.opx_pure ((Value.bool true)) rfl (fun _ => by kernel_rfl) ?_)
        refine Xg.ops_op (by kernel_rfl) (Xg.opx_pure ((Value.slice xx3.fst xx3.snd.snd.length xx3.snd.fst)) rfl (fun _ => by kernel_rfl) ?_)
        refine Xg.ops_op (by kernel_rfl) (Xg.opx_pure ((Value.bool true)) rfl (fun _ => by kernel_rfl) ?_)
        refine Xg.ops_nil ?_
        refine Xg.at_seq ?_
        refine Xg.at_region ?_
        refine Xg.ops_op (by kernel_rfl) (Xg.opx_pure ((Value.slice a n c)) rfl (fun _ => by kernel_rfl) ?_)
        refine Xg.ops_op (by kernel_rfl) (Xg.opx_pure ((Value.slice la2 l2.length lc2)) rfl (fun _ => by kernel_rfl) ?_)
        refine Xg.ops_op (by kernel_rfl) (Xg.opx_callE' [5] (fun xx4 => [rowR xx4.fst (130 : Int) (0 : Int) (0 : Int) (0 : Int) (0 : Int) (0 : Int) (0 : Int) (0 : Int) (228 : Int) (27 : Int) (0 : Int) (0 : Int), row xx4.snd.fst (42 : TypeId) [iv 16, Value.slice xx4.snd.snd.fst (16 : Nat) xx4.snd.snd.snd], ownS (5 : TypeId) (1 : Nat) (Value.slice xx4.snd.snd.fst (16 : Nat) xx4.snd.snd.snd) (16 : Nat) (List.map (Value.int IntKind.u8) ts), A, ints (5 : TypeId) IntKind.u8 xx3.fst xx3.snd.fst xx3.snd.snd, rowR xx2.fst (130 : Int) (0 : Int) (0 : Int) (0 : Int) (0 : Int) (0 : Int) (0 : Int) (0 : Int) (228 : Int) (27 : Int) (0 : Int) (0 : Int), row xx2.snd.fst (42 : TypeId) [iv 16, Value.slice xx2.snd.snd.fst (16 : Nat) xx2.snd.snd.snd], ownS (5 : TypeId) (1 : Nat) (Value.slice xx2.snd.snd.fst (16 : Nat) xx2.snd.snd.snd) (16 : Nat) (List.map (Value.int IntKind.u8) ts), ints (5 : TypeId) IntKind.u8 la lc l, ints (5 : TypeId) IntKind.u8 la2 lc2 l2]) (fun _ => by kernel_rfl) (@hlo (la2) (l2.length) (lc2)) (by kernel_rfl) (by kernel_rfl) (by kernel_rfl) fun xx4 xh5 => ?_)
        try dsimp only at xh5
        refine Xg.ops_op (by kernel_rfl) (Xg.opx_callE' [0, 1, 2, 9] (fun xx5 => [ints (5 : TypeId) IntKind.u8 xx5.fst xx5.snd.fst xx5.snd.snd, rowR xx4.fst (130 : Int) (0 : Int) (0 : Int) (0 : Int) (0 : Int) (0 : Int) (0 : Int) (0 : Int) (228 : Int) (27 : Int) (0 : Int) (0 : Int), row xx4.snd.fst (42 : TypeId) [iv 16, Value.slice xx4.snd.snd.fst (16 : Nat) xx4.snd.snd.snd], ownS (5 : TypeId) (1 : Nat) (Value.slice xx4.snd.snd.fst (16 : Nat) xx4.snd.snd.snd) (16 : Nat) (List.map (Value.int IntKind.u8) ts), ints (5 : TypeId) IntKind.u8 la2 lc2 l2, A, ints (5 : TypeId) IntKind.u8 xx3.fst xx3.snd.fst xx3.snd.snd, rowR xx2.fst (130 : Int) (0 : Int) (0 : Int) (0 : Int) (0 : Int) (0 : Int) (0 : Int) (0 : Int) (228 : Int) (27 : Int) (0 : Int) (0 : Int), row xx2.snd.fst (42 : TypeId) [iv 16, Value.slice xx2.snd.snd.fst (16 : Nat) xx2.snd.snd.snd], ownS (5 : TypeId) (1 : Nat) (Value.slice xx2.snd.snd.fst (16 : Nat) xx2.snd.snd.snd) (16 : Nat) (List.map (Value.int IntKind.u8) ts), ints (5 : TypeId) IntKind.u8 la lc l]) (fun _ => by kernel_rfl) (@hsh2 (xx4.fst) (xx4.snd.fst) (xx4.snd.snd.fst) (xx4.snd.snd.snd)) (by kernel_rfl) (by kernel_rfl) (by kernel_rfl) fun xx5 xh6 => ?_)
        try dsimp only at xh6
        obtain ⟨xh6_0, xh6_1⟩ := xh6
        refine Xg.ops_op (by kernel_rfl) (Xg.opx_pure ((Value.tuple #[Value.slice xx5.fst xx5.snd.snd.length xx5.snd.fst, Value.bool true])) rfl (fun _ => by kernel_rfl) ?_)
        refine Xg.ops_op (by kernel_rfl) (Xg.opx_pure ((Value.slice xx5.fst xx5.snd.snd.length xx5.snd.fst)) rfl (fun _ => by kernel_rfl) ?_)
        refine Xg.ops_op (by kernel_rfl) (Xg.opx_pure ((Value.bool true)) rfl (fun _ => by kernel_rfl) ?_)
        refine Xg.ops_op (by kernel_rfl) (Xg.opx_pure ((Value.slice xx5.fst xx5.snd.snd.length xx5.snd.fst)) rfl (fun _ => by kernel_rfl) ?_)
        refine Xg.ops_op (by kernel_rfl) (Xg.opx_pure ((Value.bool true)) rfl (fun _ => by kernel_rfl) ?_)
        refine Xg.ops_nil ?_
        refine Xg.at_seq ?_
        refine Xg.at_region ?_
        refine Xg.ops_op (by kernel_rfl) (Xg.opx_pure ((Value.bool true)) rfl (fun _ => by kernel_rfl) ?_)
        refine Xg.ops_op (by kernel_rfl) (Xg.opx_pure ((Value.bool true)) rfl (fun _ => by kernel_rfl) ?_)
        refine Xg.ops_op (by kernel_rfl) (Xg.opx_pure ((Value.bool true)) rfl (fun _ => by kernel_rfl) ?_)
        refine Xg.ops_op (by kernel_rfl) (Xg.opx_pure ((Value.bool true)) rfl (fun _ => by kernel_rfl) ?_)
        refine Xg.ops_op (by kernel_rfl) (Xg.opx_pure ((Value.bool true)) rfl (fun _ => by kernel_rfl) ?_)
        refine Xg.ops_op (by kernel_rfl) (Xg.opx_pure ((Value.slice xx3.fst xx3.snd.snd.length xx3.snd.fst)) rfl (fun _ => by kernel_rfl) ?_)
        refine Xg.ops_op (by kernel_rfl) (Xg.opx_rd 6 (.string (Xg.St xx3.snd.snd)) rfl (Xg.reads_own (E := ((5 : TypeId))) (sz := ((1 : Nat))) (n := xx3.snd.snd.length) (c := xx3.snd.fst) (a := xx3.fst) (vs := (List.map (Value.int IntKind.u8) xx3.snd.snd))) (by kernel_rfl) (Xg.run_str_rd (e := 5) (a := xx3.fst) (n := xx3.snd.snd.length) (c := xx3.snd.fst) (xs := xx3.snd.snd) (by kernel_rfl) (by kernel_rfl) (by kernel_rfl) (by kernel_rfl)) ?_)
        refine Xg.ops_op (by kernel_rfl) (Xg.opx_pure ((Value.slice xx5.fst xx5.snd.snd.length xx5.snd.fst)) rfl (fun _ => by kernel_rfl) ?_)
        refine Xg.ops_op (by kernel_rfl) (Xg.opx_rd 0 (.string (Xg.St xx5.snd.snd)) rfl (Xg.reads_own (E := ((5 : TypeId))) (sz := ((1 : Nat))) (n := xx5.snd.snd.length) (c := xx5.snd.fst) (a := xx5.fst) (vs := (List.map (Value.int IntKind.u8) xx5.snd.snd))) (by kernel_rfl) (Xg.run_str_rd (e := 5) (a := xx5.fst) (n := xx5.snd.snd.length) (c := xx5.snd.fst) (xs := xx5.snd.snd) (by kernel_rfl) (by kernel_rfl) (by kernel_rfl) (by kernel_rfl)) ?_)
        refine Xg.ops_op (by kernel_rfl) (Xg.opx_run (.bool (Xg.sEq xx3.snd.snd xx5.snd.snd)) rfl (Xg.run_str_eq (xs := xx3.snd.snd) (ys := xx5.snd.snd) (by kernel_rfl) (by kernel_rfl) (by kernel_rfl)) ?_)
        refine Xg.ops_flag (j := 84) (c := (sEq xx3.snd.snd xx5.snd.snd)) (by kernel_rfl) (fun xh7 => ?_) (fun xh7 => ?_)
        refine Xg.ops_op (by kernel_rfl) (Xg.opx_pure ((Value.bool true)) rfl (fun _ => by kernel_rfl) ?_)
        refine Xg.ops_op (by kernel_rfl) (Xg.opx_pure ((Value.bool true)) rfl (fun _ => by kernel_rfl) ?_)
        refine Xg.ops_nil ?_
        refine Xg.at_ret_ps (v := (Value.bool true)) [5] [A] Go.Proofs.Try.func11 (fun _ => by kernel_rfl) (by kernel_rfl) (by kernel_rfl) ?_
        exact ⟨by kernel_rfl, by kernel_rfl⟩
        refine Xg.ops_op (by kernel_rfl) (Xg.opx_pure ((Value.bool false)) rfl (fun _ => by kernel_rfl) ?_)
        refine Xg.ops_op (by kernel_rfl) (Xg.opx_pure ((Value.bool false)) rfl (fun _ => by kernel_rfl) ?_)
        refine Xg.ops_nil ?_
        refine Xg.at_ret_ps (v := (Value.bool false)) [5] [A] Go.Proofs.Try.func11 (fun _ => by kernel_rfl) (by kernel_rfl) (by kernel_rfl) ?_
        rotate_left
        refine Xg.ops_skip (by kernel_rfl) ?_
        refine Xg.ops_skip (by kernel_rfl) ?_
        refine Xg.ops_op (by kernel_rfl) (Xg.opx_pure ((Value.bool false)) rfl (fun _ => by kernel_rfl) ?_)
        refine Xg.ops_nil ?_
        refine Xg.at_false (t := false) (by kernel_rfl) rfl ?_
        refine Xg.at_exit rfl ?_
        refine Xg.at_seq ?_
        refine Xg.at_region ?_
        refine Xg.ops_op (by kernel_rfl) (Xg.opx_pure ((Value.slice a n c)) rfl (fun _ => by kernel_rfl) ?_)
        refine Xg.ops_op (by kernel_rfl) (Xg.opx_pure ((Value.slice la l.length lc)) rfl (fun _ => by kernel_rfl) ?_)
        refine Xg.ops_op (by kernel_rfl) (Xg.opx_callE' [2] (fun xx2 => [rowR xx2.fst (130 : Int) (0 : Int) (0 : Int) (0 : Int) (0 : Int) (0 : Int) (0 : Int) (0 : Int) (228 : Int) (27 : Int) (0 : Int) (0 : Int), row xx2.snd.fst (42 : TypeId) [iv 16, Value.slice xx2.snd.snd.fst (16 : Nat) xx2.snd.snd.snd], ownS (5 : TypeId) (1 : Nat) (Value.slice xx2.snd.snd.fst (16 : Nat) xx2.snd.snd.snd) (16 : Nat) (List.map (Value.int IntKind.u8) ts), A, ints (5 : TypeId) IntKind.u8 la2 lc2 l2, ints (5 : TypeId) IntKind.u8 la lc l]) (fun _ => by kernel_rfl) (@hlo (la) (l.length) (lc)) (by kernel_rfl) (by kernel_rfl) (by kernel_rfl) fun xx2 xh3 => ?_)
        try dsimp only at xh3
        refine Xg.ops_op (by kernel_rfl) (Xg.opx_callE' [0, 1, 2, 5] (fun xx3 => [ints (5 : TypeId) IntKind.u8 xx3.fst xx3.snd.fst xx3.snd.snd, rowR xx2.fst (130 : Int) (0 : Int) (0 : Int) (0 : Int) (0 : Int) (0 : Int) (0 : Int) (0 : Int) (228 : Int) (27 : Int) (0 : Int) (0 : Int), row xx2.snd.fst (42 : TypeId) [iv 16, Value.slice xx2.snd.snd.fst (16 : Nat) xx2.snd.snd.snd], ownS (5 : TypeId) (1 : Nat) (Value.slice xx2.snd.snd.fst (16 : Nat) xx2.snd.snd.snd) (16 : Nat) (List.map (Value.int IntKind.u8) ts), ints (5 : TypeId) IntKind.u8 la lc l, A, ints (5 : TypeId) IntKind.u8 la2 lc2 l2]) (fun _ => by kernel_rfl) (@hsh1 (xx2.fst) (xx2.snd.fst) (xx2.snd.snd.fst) (xx2.snd.snd.snd)) (by kernel_rfl) (by kernel_rfl) (by kernel_rfl) fun xx3 xh4 => ?_)
        try dsimp only at xh4
        obtain ⟨xh4_0, xh4_1⟩ := xh4
        refine Xg.ops_op (by kernel_rfl) (Xg.opx_pure ((Value.tuple #[Value.slice xx3.fst xx3.snd.snd.length xx3.snd.fst, Value.bool true])) rfl (fun _ => by kernel_rfl) ?_)
        refine Xg.ops_op (by kernel_rfl) (Xg.opx_pure ((Value.slice xx3.fst xx3.snd.snd.length xx3.snd.fst)) rfl (fun _ => by kernel_rfl) ?_)
        refine Xg.ops_op (by kernel_rfl) (Xg.opx_pure ((Value.bool true)) rfl (fun _ => by kernel_rfl) ?_)
        refine Xg.ops_op (by kernel_rfl) (Xg.opx_pure ((Value.slice xx3.fst xx3.snd.snd.length xx3.snd.fst)) rfl (fun _ => by kernel_rfl) ?_)
        refine Xg.ops_op (by kernel_rfl) (Xg.opx_pure ((Value.bool true)) rfl (fun _ => by kernel_rfl) ?_)
        refine Xg.ops_nil ?_
        refine Xg.at_seq ?_
        refine Xg.at_region ?_
        refine Xg.ops_op (by kernel_rfl) (Xg.opx_pure ((Value.slice a n c)) rfl (fun _ => by kernel_rfl) ?_)
        refine Xg.ops_op (by kernel_rfl) (Xg.opx_pure ((Value.slice la2 l2.length lc2)) rfl (fun _ => by kernel_rfl) ?_)
        refine Xg.ops_op (by kernel_rfl) (Xg.opx_callE' [5] (fun xx4 => [rowR xx4.fst (130 : Int) (0 : Int) (0 : Int) (0 : Int) (0 : Int) (0 : Int) (0 : Int) (0 : Int) (228 : Int) (27 : Int) (0 : Int) (0 : Int), row xx4.snd.fst (42 : TypeId) [iv 16, Value.slice xx4.snd.snd.fst (16 : Nat) xx4.snd.snd.snd], ownS (5 : TypeId) (1 : Nat) (Value.slice xx4.snd.snd.fst (16 : Nat) xx4.snd.snd.snd) (16 : Nat) (List.map (Value.int IntKind.u8) ts), A, ints (5 : TypeId) IntKind.u8 xx3.fst xx3.snd.fst xx3.snd.snd, rowR xx2.fst (130 : Int) (0 : Int) (0 : Int) (0 : Int) (0 : Int) (0 : Int) (0 : Int) (0 : Int) (228 : Int) (27 : Int) (0 : Int) (0 : Int), row xx2.snd.fst (42 : TypeId) [iv 16, Value.slice xx2.snd.snd.fst (16 : Nat) xx2.snd.snd.snd], ownS (5 : TypeId) (1 : Nat) (Value.slice xx2.snd.snd.fst (16 : Nat) xx2.snd.snd.snd) (16 : Nat) (List.map (Value.int IntKind.u8) ts), ints (5 : TypeId) IntKind.u8 la lc l, ints (5 : TypeId) IntKind.u8 la2 lc2 l2]) (fun _ => by kernel_rfl) (@hlo (la2) (l2.length) (lc2)) (by kernel_rfl) (by kernel_rfl) (by kernel_rfl) fun xx4 xh5 => ?_)
        try dsimp only at xh5
        refine Xg.ops_op (by kernel_rfl) (Xg.opx_callE' [0, 1, 2, 9] (fun xx5 => [ints (5 : TypeId) IntKind.u8 xx5.fst xx5.snd.fst xx5.snd.snd, rowR xx4.fst (130 : Int) (0 : Int) (0 : Int) (0 : Int) (0 : Int) (0 : Int) (0 : Int) (0 : Int) (228 : Int) (27 : Int) (0 : Int) (0 : Int), row xx4.snd.fst (42 : TypeId) [iv 16, Value.slice xx4.snd.snd.fst (16 : Nat) xx4.snd.snd.snd], ownS (5 : TypeId) (1 : Nat) (Value.slice xx4.snd.snd.fst (16 : Nat) xx4.snd.snd.snd) (16 : Nat) (List.map (Value.int IntKind.u8) ts), ints (5 : TypeId) IntKind.u8 la2 lc2 l2, A, ints (5 : TypeId) IntKind.u8 xx3.fst xx3.snd.fst xx3.snd.snd, rowR xx2.fst (130 : Int) (0 : Int) (0 : Int) (0 : Int) (0 : Int) (0 : Int) (0 : Int) (0 : Int) (228 : Int) (27 : Int) (0 : Int) (0 : Int), row xx2.snd.fst (42 : TypeId) [iv 16, Value.slice xx2.snd.snd.fst (16 : Nat) xx2.snd.snd.snd], ownS (5 : TypeId) (1 : Nat) (Value.slice xx2.snd.snd.fst (16 : Nat) xx2.snd.snd.snd) (16 : Nat) (List.map (Value.int IntKind.u8) ts), ints (5 : TypeId) IntKind.u8 la lc l]) (fun _ => by kernel_rfl) (@hsh2 (xx4.fst) (xx4.snd.fst) (xx4.snd.snd.fst) (xx4.snd.snd.snd)) (by kernel_rfl) (by kernel_rfl) (by kernel_rfl) fun xx5 xh6 => ?_)
        try dsimp only at xh6
        obtain ⟨xh6_0, xh6_1⟩ := xh6
        refine Xg.ops_op (by kernel_rfl) (Xg.opx_pure ((Value.tuple #[Value.slice xx5.fst xx5.snd.snd.length xx5.snd.fst, Value.bool true])) rfl (fun _ => by kernel_rfl) ?_)
        refine Xg.ops_op (by kernel_rfl) (Xg.opx_pure ((Value.slice xx5.fst xx5.snd.snd.length xx5.snd.fst)) rfl (fun _ => by kernel_rfl) ?_)
        refine Xg.ops_op (by kernel_rfl) (Xg.opx_pure ((Value.bool true)) rfl (fun _ => by kernel_rfl) ?_)
        refine Xg.ops_op (by kernel_rfl) (Xg.opx_pure ((Value.slice xx5.fst xx5.snd.snd.length xx5.snd.fst)) rfl (fun _ => by kernel_rfl) ?_)
        refine Xg.ops_op (by kernel_rfl) (Xg.opx_pure ((Value.bool true)) rfl (fun _ => by kernel_rfl) ?_)
        refine Xg.ops_nil ?_
        refine Xg.at_seq ?_
        refine Xg.at_region ?_
        refine Xg.ops_op (by kernel_rfl) (Xg.opx_pure ((Value.bool true)) rfl (fun _ => by kernel_rfl) ?_)
        refine Xg.ops_op (by kernel_rfl) (Xg.opx_pure ((Value.bool true)) rfl (fun _ => by kernel_rfl) ?_)
        refine Xg.ops_op (by kernel_rfl) (Xg.opx_pure ((Value.bool true)) rfl (fun _ => by kernel_rfl) ?_)
        refine Xg.ops_op (by kernel_rfl) (Xg.opx_pure ((Value.bool true)) rfl (fun _ => by kernel_rfl) ?_)
        refine Xg.ops_op (by kernel_rfl) (Xg.opx_pure ((Value.bool true)) rfl (fun _ => by kernel_rfl) ?_)
        refine Xg.ops_op (by kernel_rfl) (Xg.opx_pure ((Value.slice xx3.fst xx3.snd.snd.length xx3.snd.fst)) rfl (fun _ => by kernel_rfl) ?_)
        refine Xg.ops_op (by kernel_rfl) (Xg.opx_rd 6 (.string (Xg.St xx3.snd.snd)) rfl (Xg.reads_own (E := ((5 : TypeId))) (sz := ((1 : Nat))) (n := xx3.snd.snd.length) (c := xx3.snd.fst) (a := xx3.fst) (vs := (List.map (Value.int IntKind.u8) xx3.snd.snd))) (by kernel_rfl) (Xg.run_str_rd (e := 5) (a := xx3.fst) (n := xx3.snd.snd.length) (c := xx3.snd.fst) (xs := xx3.snd.snd) (by kernel_rfl) (by kernel_rfl) (by kernel_rfl) (by kernel_rfl)) ?_)
        refine Xg.ops_op (by kernel_rfl) (Xg.opx_pure ((Value.slice xx5.fst xx5.snd.snd.length xx5.snd.fst)) rfl (fun _ => by kernel_rfl) ?_)
        refine Xg.ops_op (by kernel_rfl) (Xg.opx_rd 0 (.string (Xg.St xx5.snd.snd)) rfl (Xg.reads_own (E := ((5 : TypeId))) (sz := ((1 : Nat))) (n := xx5.snd.snd.length) (c := xx5.snd.fst) (a := xx5.fst) (vs := (List.map (Value.int IntKind.u8) xx5.snd.snd))) (by kernel_rfl) (Xg.run_str_rd (e := 5) (a := xx5.fst) (n := xx5.snd.snd.length) (c := xx5.snd.fst) (xs := xx5.snd.snd) (by kernel_rfl) (by kernel_rfl) (by kernel_rfl) (by kernel_rfl)) ?_)
        refine Xg.ops_op (by kernel_rfl) (Xg.opx_run (.bool (Xg.sEq xx3.snd.snd xx5.snd.snd)) rfl (Xg.run_str_eq (xs := xx3.snd.snd) (ys := xx5.snd.snd) (by kernel_rfl) (by kernel_rfl) (by kernel_rfl)) ?_)
        refine Xg.ops_flag (j := 84) (c := (sEq xx3.snd.snd xx5.snd.snd)) (by kernel_rfl) (fun xh7 => ?_) (fun xh7 => ?_)
        refine Xg.ops_op (by kernel_rfl) (Xg.opx_pure ((Value.bool true)) rfl (fun _ => by kernel_rfl) ?_)
        refine Xg.ops_op (by kernel_rfl) (Xg.opx_pure ((Value.bool true)) rfl (fun _ => by kernel_rfl) ?_)
        refine Xg.ops_nil ?_
        refine Xg.at_ret_ps (v := (Value.bool true)) [5] [A] Go.Proofs.Try.func11 (fun _ => by kernel_rfl) (by kernel_rfl) (by kernel_rfl) ?_
        exact ⟨by kernel_rfl, by kernel_rfl⟩
        refine Xg.ops_op (by kernel_rfl) (Xg.opx_pure ((Value.bool false)) rfl (fun _ => by kernel_rfl) ?_)
        refine Xg.ops_op (by kernel_rfl) (Xg.opx_pure ((Value.bool false)) rfl (fun _ => by kernel_rfl) ?_)
        refine Xg.ops_nil ?_
        refine Xg.at_ret_ps (v := (Value.bool false)) [5] [A] Go.Proofs.Try.func11 (fun _ => by kernel_rfl) (by kernel_rfl) (by kernel_rfl) ?_)
      · have e := hsame xx2.1 xx2.2.1 xx4.1 xx4.2.1 xx2.2.2.1 xx4.2.2.1 xx2.2.2.2 xx4.2.2.2 xx3.2.2 xx5.2.2 (by assumption) (by assumption)
        have h0 : sEq xx3.2.2 xx5.2.2 = false := by assumption
        rw [e, sEq_self] at h0
        exact absurd h0 (by decide)
      · have e := hsame xx2.1 xx2.2.1 xx4.1 xx4.2.1 xx2.2.2.1 xx4.2.2.1 xx2.2.2.2 xx4.2.2.2 xx3.2.2 xx5.2.2 (by assumption) (by assumption)
        have h0 : sEq xx3.2.2 xx5.2.2 = false := by assumption
        rw [e, sEq_self] at h0
        exact absurd h0 (by decide)

theorem pten_d (A : HP) (a : Option Addr) (n c : Nat) (xs : List Int) (hn : xs.length = n) (hmx : n ≤ maxLen) (hR : Reads A 1 (.slice a n c) n (xs.map (Value.int .u8))) (hB : ∀ i, i < n → 0 ≤ xs.getD i 0 ∧ xs.getD i 0 ≤ 255)
    (row0 : Int) (hrow : i64ok row0)
    (a2 : Option Addr) (n2 c2 : Nat) (cs : List Int) (hn2 : cs.length = n2) (hmx2 : n2 ≤ maxLen) (hR2 : Reads A 1 (.slice a2 n2 c2) n2 (cs.map (Value.int .u8))) (hB2 : ∀ i, i < n2 → 0 ≤ cs.getD i 0 ∧ cs.getD i 0 ≤ 255)
    (a3 : Option Addr) (n3 c3 : Nat) (ms : List Int) (hn3 : ms.length = n3) (hmx3 : n3 ≤ maxLen) (hR3 : Reads A 1 (.slice a3 n3 c3) n3 (ms.map (Value.int .u8))) (hB3 : ∀ i, i < n3 → 0 ≤ ms.getD i 0 ∧ ms.getD i 0 ≤ 255) :
    Does Try.prog 11 [.slice a n c, .int .i64 row0, .slice a2 n2 c2, .slice a3 n3 c3] [A] (Ret (.bool true) [A]) := by
  by_cases h : n3 ≤ 30
  · exact pten_0 A a n c xs hn hmx hR hB row0 hrow a2 n2 c2 cs hn2 hmx2 hR2 hB2 a3 n3 c3 ms hn3 hmx3 hR3 hB3 n3 (.inl ⟨h, rfl⟩)
  · exact pten_0 A a n c xs hn hmx hR hB row0 hrow a2 n2 c2 cs hn2 hmx2 hR2 hB2 a3 n3 c3 ms hn3 hmx3 hR3 hB3 30 (.inr ⟨by omega, rfl⟩)

end Go.Proofs.Ytkfclamiendamaa
