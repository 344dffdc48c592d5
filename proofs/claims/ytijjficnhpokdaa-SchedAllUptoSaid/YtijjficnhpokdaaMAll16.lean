import Derived.Test.YtijjficnhpokdaaMAll15
/- The sched law's World: settle. -/
namespace Go.Proofs.Ytijjficnhpokdaa
open Go.Sl Go.Xg
set_option linter.unusedVariables false
set_option linter.unusedSimpArgs false
set_option linter.unusedSectionVars false
set_option linter.unnecessarySimpa false
set_option maxHeartbeats 4000000
set_option maxRecDepth 100000

abbrev WR (wb : Nat) (v1 : Value) (fa : Option Addr) (fn fc : Nat) (wa : Option Addr) (wn wc : Nat) (xa : Option Addr) (xn xc : Nat) (ma : Option Addr) (mn mc : Nat) : HP := row wb 50 [v1, .slice fa fn fc, .slice wa wn wc, .slice xa xn xc, .slice ma mn mc]
/-- Those that stay read as they came. -/
def Fresh (Fr : List (Option Addr × List Int)) (Wa : List (Option Addr × Nat × List Int)) : Prop := Fr.length ≤ 100 ∧ Wa.length = Fr.length ∧ ∀ i, i < Fr.length → (Wa.getD i default).2.2 = (Fr.getD i default).2 ∧ (Fr.getD i default).2.length ≤ 64
/-- The mark of the i-th. -/
def markI (n i : Nat) : Int := -2 - (n : Int) - 4 * (i : Int)
/-- The first i are marked. -/
def FrM (n : Nat) (Fr : List (Option Addr × List Int)) (i : Nat) (G : List (Option Addr × List Int)) : Prop := G.length = Fr.length ∧ ∀ j, j < Fr.length → (G.getD j default).1 = (Fr.getD j default).1 ∧ (G.getD j default).2.length = (Fr.getD j default).2.length ∧ (i ≤ j → (G.getD j default).2 = (Fr.getD j default).2) ∧ (j < i → ∀ k, k < (Fr.getD j default).2.length → (G.getD j default).2.getD k 0 = markI n j)
theorem frk_same : ∀ (F G : List (Option Addr × List Int)), G.length = F.length → (∀ j, j < F.length → (G.getD j default).1 = (F.getD j default).1 ∧ (G.getD j default).2.length = (F.getD j default).2.length) → recs frK G = recs frK F
  | [], [], _, _ => rfl
  | [], _ :: _, h, _ => by simp at h
  | _ :: _, [], h, _ => by simp at h
  | x :: F, y :: G, h, h2 => by
    have e := h2 0 (by simp)
    have e1 : y.1 = x.1 := e.1
    have e2 : y.2.length = x.2.length := e.2
    have ih := frk_same F G (by simpa using h) fun j hj => by simpa using h2 (j + 1) (by simpa using hj)
    unfold recs at ih ⊢
    rw [List.flatMap_cons, List.flatMap_cons, ih]
    show [Value.slice y.1 y.2.length y.2.length] ++ _ = [Value.slice x.1 x.2.length x.2.length] ++ _
    rw [e1, e2]

theorem FrM.step {n : Nat} {Fr G : List (Option Addr × List Int)} {i : Nat} (h : FrM n Fr i G) (hi : i < Fr.length) (S : List Int) (hS : S.length = (Fr.getD i default).2.length) (hm : ∀ k, k < (Fr.getD i default).2.length → S.getD k 0 = markI n i) : FrM n Fr (i + 1) (G.set i ((Fr.getD i default).1, S)) := by
  obtain ⟨h1, h2⟩ := h
  refine ⟨by rw [List.length_set]; exact h1, fun j hj => ?_⟩
  obtain ⟨a1, a2, a3, a4⟩ := h2 j hj
  by_cases e : j = i
  · subst e
    rw [List.getD_eq_getElem?_getD, List.getElem?_set_self (by omega)]
    exact ⟨rfl, hS, fun h => by omega, fun _ k hk => hm k hk⟩
  · rw [List.getD_eq_getElem?_getD, List.getElem?_set_ne (fun e2 => e e2.symm), ← List.getD_eq_getElem?_getD]
    exact ⟨a1, a2, fun h => a3 (by omega), fun h => a4 (by omega)⟩
theorem FrM.start (n : Nat) (Fr : List (Option Addr × List Int)) : FrM n Fr 0 Fr := ⟨rfl, fun j hj => ⟨rfl, rfl, fun _ => rfl, fun h => absurd h (Nat.not_lt_zero j)⟩⟩
theorem getD_four {α : Type} (d : α) (l m : List α) (i : Nat) : (l ++ m).getD i d = if i < l.length then l.getD i d else m.getD (i - l.length) d := by
  simp only [List.getD_eq_getElem?_getD]
  split
  · rename_i h; rw [List.getElem?_append_left h]
  · rename_i h; rw [List.getElem?_append_right (by omega)]
theorem Marked.four {Ls : List (Option Addr × Nat × List Int)} {Ms : List Int} (h : Marked Ls Ms) (l : List Int) (v : Int) (hl : l.length ≤ 64) (hv : ∀ k, k < l.length → l.getD k 0 = v) (a0 a1 a2 a3 : Option Addr) (c0 c1 c2 c3 : Nat) :
    Marked (Ls ++ [(a0, c0, l), (a1, c1, l ++ [v]), (a2, c2, l ++ [v, v]), (a3, c3, l ++ [v, v, v])]) (Ms ++ [v, v, v, v]) := by
  obtain ⟨h1, h2⟩ := h
  refine ⟨by rw [List.length_append, List.length_append, h1]; rfl, fun i hi => ?_⟩
  have hi : i < Ls.length + 4 := by simpa using hi
  rw [getD_four, getD_four, ← h1]
  by_cases e : i < Ls.length
  · rw [if_pos e, if_pos e]; exact h2 i e
  · rw [if_neg e, if_neg e]
    have key : ∀ m : List Int, (∀ k, k < m.length → m.getD k 0 = v) → m.length ≤ 3 → (l ++ m).length ≤ 1000 ∧ ∀ k, k < (l ++ m).length → (l ++ m).getD k 0 = v := fun m hm hm3 => by
      refine ⟨by rw [List.length_append]; omega, fun k hk => ?_⟩
      rw [List.length_append] at hk
      rw [getD_four]
      by_cases e2 : k < l.length
      · rw [if_pos e2]; exact hv k e2
      · rw [if_neg e2]; exact hm _ (by omega)
    obtain ⟨j, hj⟩ : ∃ j, i - Ls.length = j := ⟨_, rfl⟩
    have hj4 : j < 4 := by omega
    rw [hj]
    have : j = 0 ∨ j = 1 ∨ j = 2 ∨ j = 3 := by omega
    rcases this with rfl | rfl | rfl | rfl
    · exact ⟨by show l.length ≤ 1000; omega, hv⟩
    · exact key [v] (fun k hk => by have : k < 1 := hk; obtain rfl : k = 0 := by omega
                                    rfl) (by simp)
    · exact key [v, v] (fun k hk => by
        have : k < 2 := hk
        have : k = 0 ∨ k = 1 := by omega
        rcases this with rfl | rfl <;> rfl) (by simp)
    · exact key [v, v, v] (fun k hk => by
        have : k < 3 := hk
        have : k = 0 ∨ k = 1 ∨ k = 2 := by omega
        rcases this with rfl | rfl | rfl <;> rfl) (by simp)

section
variable {P : Program} {f : FuncId} {g : World} {F : List HP} {R : Ending → World → Prop} {k : List Item} {T : List Value} {L : List HP}
theorem at_head {A B : HP} (e : A = B) (h : At P f g F R k T (B :: L)) : At P f g F R k T (A :: L) := e ▸ h
theorem at_drop {α : Type} {cs : α → HP} {l : List α} (d : α) {i : Nat} (hi : i < l.length) (h : At P f g F R k T (cs (l.getD i d) :: starL cs (l.drop (i + 1)) :: L)) : At P f g F R k T (starL cs (l.drop i) :: L) := by
  have e : l.drop i = l.getD i d :: l.drop (i + 1) := by
    rw [List.drop_eq_getElem_cons hi, List.getD_eq_getElem?_getD, List.getElem?_eq_getElem hi]; rfl
  rw [e]
  exact h.sl fun w hS => starL_cons.1 hS
theorem at_four {α : Type} {cs : α → HP} {l : List α} {a b c d : α} (h : At P f g F R k T (starL cs (l ++ [a, b, c, d]) :: L)) : At P f g F R k T (cs a :: cs b :: cs c :: cs d :: starL cs l :: L) := h.sl fun w hS => by
  have h1 : SL g (starL cs [a, b, c, d] :: starL cs l :: (L ++ F)) w := starL_cons.2 (sl_keep (L := [starL cs [b, c, d], cs a, starL cs l]) [1, 0, 2] rfl (starL_cons.2 (sl_keep (L := [starL cs [c, d], cs a, cs b, starL cs l]) [2, 0, 1, 3] rfl (starL_cons.2 (sl_keep (L := [starL cs [d], cs a, cs b, cs c, starL cs l]) [3, 0, 1, 2, 4] rfl (starL_cons.2 (sl_keep (L := [starL cs [], cs a, cs b, cs c, cs d, starL cs l]) [4, 0, 1, 2, 3, 5] rfl (starL_nil.2 hS))))))))
  exact starL_app.2 (h1.perm (.swap _ _ _))
end
theorem settle_d (wb : Nat) (v1 : Value) (fa wa xa ma : Option Addr) (fc wc xc mcp : Nat) (Fr : List (Option Addr × List Int)) (Wa : List (Option Addr × Nat × List Int)) (Ls : List (Option Addr × Nat × List Int)) (Ms : List Int) (hF : Fresh Fr Wa) (hM : Marked Ls Ms) (hl : Ls.length ≤ 100000000) : Does Try.prog 20 [.pointer (some ⟨wb, 0, none⟩)] [WR wb v1 fa Fr.length fc wa Wa.length wc xa Ls.length xc ma Ms.length mcp, FH fa fc Fr, starL frP Fr, IH wa wc Wa, starL ihP Wa, IH xa xc Ls, starL ihP Ls, SP ma mcp Ms]
    (RetE (fun x : (Option Addr × Nat × List (Option Addr × Nat × List Int)) × (Option Addr × Nat × List Int) => Marked x.1.2.2 x.2.2.2 ∧ x.1.2.2.length = Ls.length + 4 * Fr.length) (fun x => .bool true) (fun x => [WR wb v1 none 0 0 none 0 0 x.1.1 x.1.2.2.length x.1.2.1 x.2.1 x.2.2.2.length x.2.2.1, IH x.1.1 x.1.2.1 x.1.2.2, starL ihP x.1.2.2, SP x.2.1 x.2.2.1 x.2.2.2])) := by
  obtain ⟨hF1, hF2, hF3⟩ := id hF
  obtain ⟨hM1, hM2⟩ := id hM
  (focus
    refine Xg.spec_of Go.Proofs.Try.func20 rfl Go.Proofs.Try.ntmps20 fun g F => ?_)
  (focus
    refine Xg.at_seq ?_
    refine Xg.at_region ?_
    refine Xg.ops_op (by kernel_rfl) (Xg.opx_pure ((Value.bool false)) rfl (fun _ => by kernel_rfl) ?_)
    refine Xg.ops_nil ?_
    refine Xg.at_seq ?_
    refine Xg.at_region ?_
    refine Xg.ops_op (by kernel_rfl) (Xg.opx_pure ((pv wb 0)) rfl (fun _ => by kernel_rfl) ?_)
    refine Xg.ops_op (by kernel_rfl) (Xg.opx_pure ((pv wb 0)) rfl (fun _ => by kernel_rfl) ?_)
    refine Xg.ops_op (by kernel_rfl) (Xg.opx_pure ((pv wb 4)) rfl (fun _ => by kernel_rfl) ?_)
    refine Xg.ops_op (by kernel_rfl) (Xg.opx_load (b := wb) (off := ((4 : Nat))) 0 (Value.slice ma Ms.length mcp) rfl (by kernel_rfl) (by kernel_rfl) (by kernel_rfl) ?_)
    refine Xg.ops_op (by kernel_rfl) (Xg.opx_pure ((iv (↑Ms.length : Int))) rfl (fun _ => by kernel_rfl) ?_)
    refine Xg.ops_op (by kernel_rfl) (Xg.opx_pure ((iv (↑Ms.length : Int))) rfl (fun _ => by kernel_rfl) ?_)
    refine Xg.ops_nil ?_
    refine Xg.at_seq ?_
    refine Xg.at_seq ?_
    refine Xg.at_region ?_
    refine Xg.ops_op (by kernel_rfl) (Xg.opx_pure ((iv 0)) rfl (fun _ => by kernel_rfl) ?_)
    refine Xg.ops_nil ?_
    refine Xg.at_block ?_)
  (focus
    refine Xg.at_keep [2, 4, 0, 1, 3, 5, 6, 7] (by kernel_rfl) ?_
    refine Xg.at_rounds_inv (α := (Nat) × (Nat → Value)) (fun x => ((fun i => i ≤ Fr.length) : (Nat) → Prop) x.1) (fun x => ((fun i => Fr.length - i) : (Nat) → Nat) x.1) (fun x => Xg.headT [pv wb 0, tu, Value.bool false, iv (↑Ms.length : Int), iv 0, tu, tu, tu, tu, tu, tu, tu, tu, tu, pv wb 0, pv wb 0, pv wb 4, Value.slice ma Ms.length mcp, iv (↑Ms.length : Int), tu, tu, tu, tu, tu, tu, tu, tu, tu, tu, tu, tu, tu, tu, tu, tu, tu, tu, tu, tu, tu, tu, tu, tu, tu, tu, tu, tu, tu, tu, tu, tu, tu, tu, tu, tu, tu, tu, tu, tu, tu, tu, tu, tu, tu, tu, tu, tu, tu, tu, tu, tu, tu, tu, tu, tu, tu, tu, tu, tu, tu, tu, tu, tu, tu, tu, tu, tu, tu, tu, tu, tu, tu, tu, tu, tu, tu, tu, tu, tu, tu, tu, tu, tu, tu, tu, tu, tu, tu, tu, tu, tu, tu, tu, tu, tu, tu, tu, tu, tu, tu, tu, tu, tu, tu, tu, tu, tu, tu, tu, tu, tu, tu, tu, tu, tu, tu, tu, tu, tu, tu, tu, tu, tu, tu, tu, tu, tu, tu, tu, tu] [2, 5, 19, 20, 21, 22, 23, 24, 25, 26, 27, 28, 29, 30, 31, 32, 33, 34, 35, 36, 37, 38, 39, 40, 41, 42, 43, 44] (((fun i => [(4, .int .i64 (i : Nat))]) : (Nat) → List (Nat × Go.Value)) x.1) x.2) (fun x => ((fun i => [starL frP Fr, starL ihP Wa, WR wb v1 fa Fr.length fc wa Wa.length wc xa Ls.length xc ma Ms.length mcp, FH fa fc Fr, IH wa wc Wa, IH xa xc Ls, starL ihP Ls, SP ma mcp Ms]) : (Nat) → List Go.Sl.HP) x.1) ((0), fun j9 => ([pv wb 0, tu, Value.bool false, iv (↑Ms.length : Int), iv 0, tu, tu, tu, tu, tu, tu, tu, tu, tu, pv wb 0, pv wb 0, pv wb 4, Value.slice ma Ms.length mcp, iv (↑Ms.length : Int), tu, tu, tu, tu, tu, tu, tu, tu, tu, tu, tu, tu, tu, tu, tu, tu, tu, tu, tu, tu, tu, tu, tu, tu, tu, tu, tu, tu, tu, tu, tu, tu, tu, tu, tu, tu, tu, tu, tu, tu, tu, tu, tu, tu, tu, tu, tu, tu, tu, tu, tu, tu, tu, tu, tu, tu, tu, tu, tu, tu, tu, tu, tu, tu, tu, tu, tu, tu, tu, tu, tu, tu, tu, tu, tu, tu, tu, tu, tu, tu, tu, tu, tu, tu, tu, tu, tu, tu, tu, tu, tu, tu, tu, tu, tu, tu, tu, tu, tu, tu, tu, tu, tu, tu, tu, tu, tu, tu, tu, tu, tu, tu, tu, tu, tu, tu, tu, tu, tu, tu, tu, tu, tu, tu, tu, tu, tu, tu, tu, tu, tu] : List Value).getD j9 undef) (by kernel_rfl) (by kernel_rfl) ?_ ?_)
  · exact Nat.zero_le _
  rintro ⟨i, J⟩ hi ih
  dsimp only at hi
  (focus
    refine Xg.At.same (T' := [pv wb 0, tu, J 2, iv (↑Ms.length : Int), iv (↑i : Int), J 5, tu, tu, tu, tu, tu, tu, tu, tu, pv wb 0, pv wb 0, pv wb 4, Value.slice ma Ms.length mcp, iv (↑Ms.length : Int), J 19, J 20, J 21, J 22, J 23, J 24, J 25, J 26, J 27, J 28, J 29, J 30, J 31, J 32, J 33, J 34, J 35, J 36, J 37, J 38, J 39, J 40, J 41, J 42, J 43, J 44, tu, tu, tu, tu, tu, tu, tu, tu, tu, tu, tu, tu, tu, tu, tu, tu, tu, tu, tu, tu, tu, tu, tu, tu, tu, tu, tu, tu, tu, tu, tu, tu, tu, tu, tu, tu, tu, tu, tu, tu, tu, tu, tu, tu, tu, tu, tu, tu, tu, tu, tu, tu, tu, tu, tu, tu, tu, tu, tu, tu, tu, tu, tu, tu, tu, tu, tu, tu, tu, tu, tu, tu, tu, tu, tu, tu, tu, tu, tu, tu, tu, tu, tu, tu, tu, tu, tu, tu, tu, tu, tu, tu, tu, tu, tu, tu, tu, tu, tu, tu, tu, tu, tu, tu, tu]) (L' := [starL frP Fr, starL ihP Wa, WR wb v1 fa Fr.length fc wa Wa.length wc xa Ls.length xc ma Ms.length mcp, FH fa fc Fr, IH wa wc Wa, IH xa xc Ls, starL ihP Ls, SP ma mcp Ms]) (by kernel_rfl) rfl ?_)
  by_cases hlt : i < Fr.length
  · obtain ⟨h1, h2⟩ := hF3 i hlt
    have hwl : i < Wa.length := by omega
    have hs : Does Try.prog 24 [.slice (Fr.getD i default).1 (Fr.getD i default).2.length (Fr.getD i default).2.length, .slice (Wa.getD i default).1 (Wa.getD i default).2.2.length (Wa.getD i default).2.1] [frP (Fr.getD i default), ihP (Wa.getD i default)] (Ret (.bool true) [frP (Fr.getD i default), ihP (Wa.getD i default)]) := by
      have h := same_d (Fr.getD i default).1 (Wa.getD i default).1 (Fr.getD i default).2.length (Wa.getD i default).2.1 (Fr.getD i default).2 (by omega)
      show Does _ _ _ [SP _ _ _, SP _ _ (Wa.getD i default).2.2] (Ret _ [SP _ _ _, SP _ _ (Wa.getD i default).2.2])
      rw [h1]
      exact h
    refine at_L_take default hlt (at_pick [2, 0, 1, 3, 4, 5, 6, 7, 8] rfl (at_L_take (cs := ihP) (l := Wa) default hwl ?_))
    (focus
      refine Xg.at_seq ?_
      refine Xg.at_seq ?_
      refine Xg.at_region ?_
      refine Xg.ops_op (by kernel_rfl) (Xg.opx_pure ((iv (↑i : Int))) rfl (fun _ => by kernel_rfl) ?_)
      refine Xg.ops_op (by kernel_rfl) (Xg.opx_pure ((pv wb 0)) rfl (fun _ => by kernel_rfl) ?_)
      refine Xg.ops_op (by kernel_rfl) (Xg.opx_pure ((pv wb 0)) rfl (fun _ => by kernel_rfl) ?_)
      refine Xg.ops_op (by kernel_rfl) (Xg.opx_pure ((pv wb 1)) rfl (fun _ => by kernel_rfl) ?_)
      refine Xg.ops_op (by kernel_rfl) (Xg.opx_load (b := wb) (off := ((1 : Nat))) 4 (Value.slice fa Fr.length fc) rfl (by kernel_rfl) (by kernel_rfl) (by kernel_rfl) ?_)
      refine Xg.ops_op (by kernel_rfl) (Xg.opx_pure ((iv (↑Fr.length : Int))) rfl (fun _ => by kernel_rfl) ?_)
      refine Xg.ops_op (by kernel_rfl) (Xg.opx_pure (.bool (decide ((((↑i : Int)) : Int) < ((↑Fr.length : Int))))) rfl (fun _ => by kernel_rfl) ?_)
      refine Xg.ops_nil ?_
      refine Xg.at_true (t := decide (((↑i : Int) < (↑Fr.length : Int)))) (by kernel_rfl) (decide_eq_true (by omega)) ?_
      refine Xg.at_skip ?_
      refine Xg.at_seq ?_
      refine Xg.at_block ?_
      refine Xg.at_seq ?_
      refine Xg.at_draw [14] [(3, [0, 1, 2, 3, 4, 7, 8, 9, 10, 11, 12, 13], Xg.CellIs (wb) (((1 : Nat))) ((Value.slice fa Fr.length fc))), (5, [0, 1, 2, 3, 4, 5, 7, 8, 9, 10, 11, 12, 13], (RdIs (1 : Nat) (Value.slice fa Fr.length fc) Fr.length (recs frK Fr))), (6, [0, 1, 2, 3, 4, 5, 6, 7, 8, 9, 10, 11, 12, 13], (RdIs (1 : Nat) (Value.slice fa Fr.length fc) Fr.length (recs frK Fr))), (10, [0, 1, 2, 3, 4, 5, 6, 7, 8, 9, 10, 11], Xg.CellIs (wb) (((2 : Nat))) ((Value.slice wa Wa.length wc))), (12, [0, 1, 2, 3, 4, 5, 6, 7, 8, 9, 10, 11, 12], (RdIs (1 : Nat) (Value.slice wa Wa.length wc) Wa.length (recs ihK Wa))), (13, [0, 1, 2, 3, 4, 5, 6, 7, 8, 9, 10, 11, 12, 13], (RdIs (1 : Nat) (Value.slice wa Wa.length wc) Wa.length (recs ihK Wa)))] (by kernel_rfl) ?_
      refine Xg.any_pure ((pv wb 0)) 0 (by kernel_rfl) rfl (by kernel_rfl) (by kernel_rfl) (by kernel_rfl) (by kernel_rfl) rfl (fun _ => by kernel_rfl) ?_
      refine Xg.any_pure ((pv wb 0)) 1 (by kernel_rfl) rfl (by kernel_rfl) (by kernel_rfl) (by kernel_rfl) (by kernel_rfl) rfl (fun _ => by kernel_rfl) ?_
      refine Xg.any_pure ((pv wb 1)) 2 (by kernel_rfl) rfl (by kernel_rfl) (by kernel_rfl) (by kernel_rfl) (by kernel_rfl) rfl (fun _ => by kernel_rfl) ?_
      refine Xg.any_reads (Value.slice fa Fr.length fc) 3 0 (by kernel_rfl) rfl (by kernel_rfl) (by kernel_rfl) (by kernel_rfl) (by kernel_rfl) rfl rfl (by kernel_rfl) (Xg.cell_now (b := wb) (off := ((1 : Nat))) 4 rfl (by kernel_rfl)) (fun _ h => Xg.run_load (by kernel_rfl) (by kernel_rfl) h) ?_
      refine Xg.any_pure ((iv (↑i : Int))) 4 (by kernel_rfl) rfl (by kernel_rfl) (by kernel_rfl) (by kernel_rfl) (by kernel_rfl) rfl (fun _ => by kernel_rfl) ?_
      refine Xg.any_reads (.pointer (some (Addr.mk (Xg.blk fa) (offA fa + i) none))) 5 1 (by kernel_rfl) rfl (by kernel_rfl) (by kernel_rfl) (by kernel_rfl) (by kernel_rfl) rfl rfl (by kernel_rfl) (Xg.rd_now 5 (Xg.reads_own (E := ((24 : Nat))) (sz := ((1 : Nat))) (n := Fr.length) (c := fc) (a := fa) (vs := (recs frK Fr))) (by kernel_rfl)) (Xg.run_ix_rd (elem := 24) (kd := .i64) (e := ((↑i : Int))) 1 i (offA fa + i) (by kernel_rfl) (by kernel_rfl) (by kernel_rfl) (by kernel_rfl) rfl (by omega) (by rw [Xg.recs_len (wd := 1) (fun _ => rfl)]; omega) (by omega)) ?_
      refine Xg.any_reads (Value.slice (Fr.getD i default).fst (Fr.getD i default).snd.length (Fr.getD i default).snd.length) 6 2 (by kernel_rfl) rfl (by kernel_rfl) (by kernel_rfl) (by kernel_rfl) (by kernel_rfl) rfl rfl (by kernel_rfl) (Xg.rd_now 5 (Xg.reads_own (E := ((24 : Nat))) (sz := ((1 : Nat))) (n := Fr.length) (c := fc) (a := fa) (vs := (recs frK Fr))) (by kernel_rfl)) (Xg.run_load_rd (off0 := (offA fa + i)) i (by kernel_rfl) (by omega) (Xg.get_recs' (wd := 1) (fun _ => rfl) default i 0 (by omega) (by decide) (by omega) (by kernel_rfl)) (by kernel_rfl)) ?_
      refine Xg.any_pure ((pv wb 0)) 7 (by kernel_rfl) rfl (by kernel_rfl) (by kernel_rfl) (by kernel_rfl) (by kernel_rfl) rfl (fun _ => by kernel_rfl) ?_
      refine Xg.any_pure ((pv wb 0)) 8 (by kernel_rfl) rfl (by kernel_rfl) (by kernel_rfl) (by kernel_rfl) (by kernel_rfl) rfl (fun _ => by kernel_rfl) ?_
      refine Xg.any_pure ((pv wb 2)) 9 (by kernel_rfl) rfl (by kernel_rfl) (by kernel_rfl) (by kernel_rfl) (by kernel_rfl) rfl (fun _ => by kernel_rfl) ?_
      refine Xg.any_reads (Value.slice wa Wa.length wc) 10 3 (by kernel_rfl) rfl (by kernel_rfl) (by kernel_rfl) (by kernel_rfl) (by kernel_rfl) rfl rfl (by kernel_rfl) (Xg.cell_now (b := wb) (off := ((2 : Nat))) 4 rfl (by kernel_rfl)) (fun _ h => Xg.run_load (by kernel_rfl) (by kernel_rfl) h) ?_
      refine Xg.any_pure ((iv (↑i : Int))) 11 (by kernel_rfl) rfl (by kernel_rfl) (by kernel_rfl) (by kernel_rfl) (by kernel_rfl) rfl (fun _ => by kernel_rfl) ?_
      refine Xg.any_reads (.pointer (some (Addr.mk (Xg.blk wa) (offA wa + i) none))) 12 4 (by kernel_rfl) rfl (by kernel_rfl) (by kernel_rfl) (by kernel_rfl) (by kernel_rfl) rfl rfl (by kernel_rfl) (Xg.rd_now 6 (Xg.reads_own (E := ((24 : Nat))) (sz := ((1 : Nat))) (n := Wa.length) (c := wc) (a := wa) (vs := (recs ihK Wa))) (by kernel_rfl)) (Xg.run_ix_rd (elem := 24) (kd := .i64) (e := ((↑i : Int))) 1 i (offA wa + i) (by kernel_rfl) (by kernel_rfl) (by kernel_rfl) (by kernel_rfl) rfl (by omega) (by rw [Xg.recs_len (wd := 1) (fun _ => rfl)]; omega) (by omega)) ?_
      refine Xg.any_reads (Value.slice (Wa.getD i default).fst (Wa.getD i default).snd.snd.length (Wa.getD i default).snd.fst) 13 5 (by kernel_rfl) rfl (by kernel_rfl) (by kernel_rfl) (by kernel_rfl) (by kernel_rfl) rfl rfl (by kernel_rfl) (Xg.rd_now 6 (Xg.reads_own (E := ((24 : Nat))) (sz := ((1 : Nat))) (n := Wa.length) (c := wc) (a := wa) (vs := (recs ihK Wa))) (by kernel_rfl)) (Xg.run_load_rd (off0 := (offA wa + i)) i (by kernel_rfl) (by omega) (Xg.get_recs' (wd := 1) (fun _ => rfl) default i 0 (by omega) (by decide) (by omega) (by kernel_rfl)) (by kernel_rfl)) ?_
      refine Xg.any_each [14] (by kernel_rfl) rfl ⟨?_, trivial⟩
      refine Xg.comes_act rfl (by kernel_rfl) (by kernel_rfl) (Xg.opx_call1' [2, 0] [frP (Fr.getD i default), ihP (Wa.getD i default), starL ihP (Wa.eraseIdx i), starL frP (Fr.eraseIdx i), WR wb v1 fa Fr.length fc wa Wa.length wc xa Ls.length xc ma Ms.length mcp, FH fa fc Fr, IH wa wc Wa, IH xa xc Ls, starL ihP Ls, SP ma mcp Ms] (fun _ => by kernel_rfl) (@hs ) (by kernel_rfl) (by kernel_rfl) (by kernel_rfl) ?_)
      refine Xg.acts (Xg.owes_skip (by kernel_rfl) (Xg.owes_skip (by kernel_rfl) (Xg.owes_skip (by kernel_rfl) (Xg.owes_skip (by kernel_rfl) (Xg.owes_skip (by kernel_rfl) (Xg.owes_skip (by kernel_rfl) Xg.owes_nil)))))) ?_
      refine Xg.any_pure ((Value.bool true)) 15 (by kernel_rfl) rfl (by kernel_rfl) (by kernel_rfl) (by kernel_rfl) (by kernel_rfl) rfl (fun _ => by kernel_rfl) ?_
      refine Xg.any_nil (by kernel_rfl) ?_
      refine Xg.at_seq ?_
      refine Xg.at_region ?_
      refine Xg.ops_op (by kernel_rfl) (Xg.opx_pure ((Value.bool true)) rfl (fun _ => by kernel_rfl) ?_)
      refine Xg.ops_op (by kernel_rfl) (Xg.opx_pure (.bool false) rfl (fun _ => by kernel_rfl) ?_)
      refine Xg.ops_nil ?_
      refine Xg.at_false (t := false) (by kernel_rfl) rfl ?_
      refine Xg.at_skip ?_
      refine Xg.at_inBlock ?_
      refine Xg.at_region ?_
      refine Xg.ops_op (by kernel_rfl) (Xg.opx_pure ((iv (↑i : Int))) rfl (fun _ => by kernel_rfl) ?_)
      refine Xg.ops_op (by kernel_rfl) (Xg.opx_int .i64 (IntKind.wrap .i64 (((↑i : Int) + (1 : Int)))) rfl (fun _ => by kernel_rfl) (Xg.wrap_i64_in (by omega)) ?_)
      refine Xg.ops_op (by kernel_rfl) (Xg.opx_pure ((iv ((↑i : Int) + (1 : Int)))) rfl (fun _ => by kernel_rfl) ?_)
      refine Xg.ops_nil ?_
      refine Xg.at_inLoop ?_)
    refine at_pick [0, 3, 1, 2, 4, 5, 6, 7, 8, 9] rfl (at_L_back default hlt (at_pick [1, 2, 0, 3, 4, 5, 6, 7, 8] rfl (at_L_back (cs := ihP) (l := Wa) default hwl ?_)))
    (focus
      refine Xg.at_keep [1, 0, 2, 3, 4, 5, 6, 7] (by kernel_rfl) ?_
      refine Xs.same ?_ (fun J9 => ih (((i + 1)), J9) ?_ ?_) (by kernel_rfl))
    · rfl
    · exact hlt
    · dsimp only; omega
  · obtain rfl : i = Fr.length := by omega
    clear ih
    (focus
      refine Xg.at_seq ?_
      refine Xg.at_seq ?_
      refine Xg.at_region ?_
      refine Xg.ops_op (by kernel_rfl) (Xg.opx_pure ((iv (↑Fr.length : Int))) rfl (fun _ => by kernel_rfl) ?_)
      refine Xg.ops_op (by kernel_rfl) (Xg.opx_pure ((pv wb 0)) rfl (fun _ => by kernel_rfl) ?_)
      refine Xg.ops_op (by kernel_rfl) (Xg.opx_pure ((pv wb 0)) rfl (fun _ => by kernel_rfl) ?_)
      refine Xg.ops_op (by kernel_rfl) (Xg.opx_pure ((pv wb 1)) rfl (fun _ => by kernel_rfl) ?_)
      refine Xg.ops_op (by kernel_rfl) (Xg.opx_load (b := wb) (off := ((1 : Nat))) 2 (Value.slice fa Fr.length fc) rfl (by kernel_rfl) (by kernel_rfl) (by kernel_rfl) ?_)
      refine Xg.ops_op (by kernel_rfl) (Xg.opx_pure ((iv (↑Fr.length : Int))) rfl (fun _ => by kernel_rfl) ?_)
      refine Xg.ops_op (by kernel_rfl) (Xg.opx_pure (.bool (decide ((((↑Fr.length : Int)) : Int) < ((↑Fr.length : Int))))) rfl (fun _ => by kernel_rfl) ?_)
      refine Xg.ops_nil ?_
      refine Xg.at_false (t := decide (((↑Fr.length : Int) < (↑Fr.length : Int)))) (by kernel_rfl) (decide_eq_false (by omega)) ?_
      refine Xg.at_exit rfl ?_
      refine Xg.at_seq ?_
      refine Xg.at_seq ?_
      refine Xg.at_region ?_
      refine Xg.ops_op (by kernel_rfl) (Xg.opx_pure ((iv 0)) rfl (fun _ => by kernel_rfl) ?_)
      refine Xg.ops_nil ?_
      refine Xg.at_block ?_)
    (focus
      refine Xg.at_keep [0, 2, 3, 5, 6, 7] (by kernel_rfl) ?_
      refine Xg.at_rounds_inv (α := (Nat × List (Option Addr × List Int)) × (Nat → Value)) (fun x => ((fun y => y.1 ≤ Fr.length ∧ FrM Ms.length Fr y.1 y.2) : (Nat × List (Option Addr × List Int)) → Prop) x.1) (fun x => ((fun y => Fr.length - y.1) : (Nat × List (Option Addr × List Int)) → Nat) x.1) (fun x => Xg.headT [pv wb 0, tu, J 2, iv (↑Ms.length : Int), iv (↑Fr.length : Int), J 5, iv 0, tu, tu, tu, tu, tu, tu, tu, pv wb 0, pv wb 0, pv wb 4, Value.slice ma Ms.length mcp, iv (↑Ms.length : Int), iv (↑Fr.length : Int), pv wb 0, pv wb 0, pv wb 1, Value.slice fa Fr.length fc, iv (↑Fr.length : Int), Value.bool (decide ((↑Fr.length : Int) < (↑Fr.length : Int))), J 26, J 27, J 28, J 29, J 30, J 31, J 32, J 33, J 34, J 35, J 36, J 37, J 38, J 39, J 40, J 41, J 42, J 43, J 44, tu, tu, tu, tu, tu, tu, tu, tu, tu, tu, tu, tu, tu, tu, tu, tu, tu, tu, tu, tu, tu, tu, tu, tu, tu, tu, tu, tu, tu, tu, tu, tu, tu, tu, tu, tu, tu, tu, tu, tu, tu, tu, tu, tu, tu, tu, tu, tu, tu, tu, tu, tu, tu, tu, tu, tu, tu, tu, tu, tu, tu, tu, tu, tu, tu, tu, tu, tu, tu, tu, tu, tu, tu, tu, tu, tu, tu, tu, tu, tu, tu, tu, tu, tu, tu, tu, tu, tu, tu, tu, tu, tu, tu, tu, tu, tu, tu, tu, tu, tu, tu, tu, tu, tu, tu] [7, 45, 46, 47, 48, 49, 50, 51, 52, 53, 54, 55, 56, 57, 58, 59, 60, 61, 62, 63, 64, 65, 66, 67, 68, 69, 70, 71, 72, 73, 74, 75, 76, 77, 78, 79] (((fun y => [(6, .int .i64 (y.1 : Nat))]) : (Nat × List (Option Addr × List Int)) → List (Nat × Go.Value)) x.1) x.2) (fun x => ((fun y => [starL frP y.2, WR wb v1 fa Fr.length fc wa Wa.length wc xa Ls.length xc ma Ms.length mcp, FH fa fc Fr, IH xa xc Ls, starL ihP Ls, SP ma mcp Ms]) : (Nat × List (Option Addr × List Int)) → List Go.Sl.HP) x.1) (((0, Fr)), fun j9 => ([pv wb 0, tu, J 2, iv (↑Ms.length : Int), iv (↑Fr.length : Int), J 5, iv 0, tu, tu, tu, tu, tu, tu, tu, pv wb 0, pv wb 0, pv wb 4, Value.slice ma Ms.length mcp, iv (↑Ms.length : Int), iv (↑Fr.length : Int), pv wb 0, pv wb 0, pv wb 1, Value.slice fa Fr.length fc, iv (↑Fr.length : Int), Value.bool (decide ((↑Fr.length : Int) < (↑Fr.length : Int))), J 26, J 27, J 28, J 29, J 30, J 31, J 32, J 33, J 34, J 35, J 36, J 37, J 38, J 39, J 40, J 41, J 42, J 43, J 44, tu, tu, tu, tu, tu, tu, tu, tu, tu, tu, tu, tu, tu, tu, tu, tu, tu, tu, tu, tu, tu, tu, tu, tu, tu, tu, tu, tu, tu, tu, tu, tu, tu, tu, tu, tu, tu, tu, tu, tu, tu, tu, tu, tu, tu, tu, tu, tu, tu, tu, tu, tu, tu, tu, tu, tu, tu, tu, tu, tu, tu, tu, tu, tu, tu, tu, tu, tu, tu, tu, tu, tu, tu, tu, tu, tu, tu, tu, tu, tu, tu, tu, tu, tu, tu, tu, tu, tu, tu, tu, tu, tu, tu, tu, tu, tu, tu, tu, tu, tu, tu, tu, tu, tu, tu] : List Value).getD j9 undef) (by kernel_rfl) (by kernel_rfl) ?_ ?_)
    · exact ⟨Nat.zero_le _, FrM.start _ _⟩
    rintro ⟨⟨i, G⟩, J2⟩ hi ih
    obtain ⟨hi, hG⟩ := hi
    dsimp only at hi hG
    (focus
      refine Xg.At.same (T' := [pv wb 0, tu, J 2, iv (↑Ms.length : Int), iv (↑Fr.length : Int), J 5, iv (↑i : Int), J2 7, tu, tu, tu, tu, tu, tu, pv wb 0, pv wb 0, pv wb 4, Value.slice ma Ms.length mcp, iv (↑Ms.length : Int), iv (↑Fr.length : Int), pv wb 0, pv wb 0, pv wb 1, Value.slice fa Fr.length fc, iv (↑Fr.length : Int), Value.bool (decide ((↑Fr.length : Int) < (↑Fr.length : Int))), J 26, J 27, J 28, J 29, J 30, J 31, J 32, J 33, J 34, J 35, J 36, J 37, J 38, J 39, J 40, J 41, J 42, J 43, J 44, J2 45, J2 46, J2 47, J2 48, J2 49, J2 50, J2 51, J2 52, J2 53, J2 54, J2 55, J2 56, J2 57, J2 58, J2 59, J2 60, J2 61, J2 62, J2 63, J2 64, J2 65, J2 66, J2 67, J2 68, J2 69, J2 70, J2 71, J2 72, J2 73, J2 74, J2 75, J2 76, J2 77, J2 78, J2 79, tu, tu, tu, tu, tu, tu, tu, tu, tu, tu, tu, tu, tu, tu, tu, tu, tu, tu, tu, tu, tu, tu, tu, tu, tu, tu, tu, tu, tu, tu, tu, tu, tu, tu, tu, tu, tu, tu, tu, tu, tu, tu, tu, tu, tu, tu, tu, tu, tu, tu, tu, tu, tu, tu, tu, tu, tu, tu, tu, tu, tu, tu, tu, tu, tu, tu, tu, tu, tu, tu]) (L' := [starL frP ((i, G), J2).fst.snd, WR wb v1 fa Fr.length fc wa Wa.length wc xa Ls.length xc ma Ms.length mcp, FH fa fc Fr, IH xa xc Ls, starL ihP Ls, SP ma mcp Ms]) (by kernel_rfl) rfl ?_)
    by_cases hlt : i < Fr.length
    · obtain ⟨g1, g2, g3, g4⟩ := hG.2 i hlt
      have eG : G.getD i default = Fr.getD i default := Prod.ext g1 (g3 (Nat.le_refl _))
      have hGl : i < G.length := by rw [hG.1]; exact hlt
      obtain ⟨h1, h2⟩ := hF3 i hlt
      refine at_L_take default hGl ?_
      rw [eG]
      (focus
        refine Xg.at_seq ?_
        refine Xg.at_seq ?_
        refine Xg.at_region ?_
        refine Xg.ops_op (by kernel_rfl) (Xg.opx_pure ((iv (↑i : Int))) rfl (fun _ => by kernel_rfl) ?_)
        refine Xg.ops_op (by kernel_rfl) (Xg.opx_pure ((pv wb 0)) rfl (fun _ => by kernel_rfl) ?_)
        refine Xg.ops_op (by kernel_rfl) (Xg.opx_pure ((pv wb 0)) rfl (fun _ => by kernel_rfl) ?_)
        refine Xg.ops_op (by kernel_rfl) (Xg.opx_pure ((pv wb 1)) rfl (fun _ => by kernel_rfl) ?_)
        refine Xg.ops_op (by kernel_rfl) (Xg.opx_load (b := wb) (off := ((1 : Nat))) 2 (Value.slice fa Fr.length fc) rfl (by kernel_rfl) (by kernel_rfl) (by kernel_rfl) ?_)
        refine Xg.ops_op (by kernel_rfl) (Xg.opx_pure ((iv (↑Fr.length : Int))) rfl (fun _ => by kernel_rfl) ?_)
        refine Xg.ops_op (by kernel_rfl) (Xg.opx_pure (.bool (decide ((((↑i : Int)) : Int) < ((↑Fr.length : Int))))) rfl (fun _ => by kernel_rfl) ?_)
        refine Xg.ops_nil ?_
        refine Xg.at_true (t := decide (((↑i : Int) < (↑Fr.length : Int)))) (by kernel_rfl) (decide_eq_true (by omega)) ?_
        refine Xg.at_skip ?_
        refine Xg.at_seq ?_
        refine Xg.at_block ?_
        refine Xg.at_seq ?_
        refine Xg.at_region ?_
        refine Xg.ops_op (by kernel_rfl) (Xg.opx_pure ((iv 0)) rfl (fun _ => by kernel_rfl) ?_)
        refine Xg.ops_nil ?_
        refine Xg.at_block ?_)
      (focus
        refine Xg.at_rounds_inv (α := (Nat × List Int) × (Nat → Value)) (fun x => ((fun y => y.1 ≤ (Fr.getD i default).2.length ∧ y.2.length = (Fr.getD i default).2.length ∧ ∀ k, k < y.1 → y.2.getD k 0 = markI Ms.length i) : (Nat × List Int) → Prop) x.1) (fun x => ((fun y => (Fr.getD i default).2.length - y.1) : (Nat × List Int) → Nat) x.1) (fun x => Xg.headT [pv wb 0, tu, J 2, iv (↑Ms.length : Int), iv (↑Fr.length : Int), J 5, iv (↑i : Int), iv 0, tu, tu, tu, tu, tu, tu, pv wb 0, pv wb 0, pv wb 4, Value.slice ma Ms.length mcp, iv (↑Ms.length : Int), iv (↑Fr.length : Int), pv wb 0, pv wb 0, pv wb 1, Value.slice fa Fr.length fc, iv (↑Fr.length : Int), Value.bool (decide ((↑Fr.length : Int) < (↑Fr.length : Int))), J 26, J 27, J 28, J 29, J 30, J 31, J 32, J 33, J 34, J 35, J 36, J 37, J 38, J 39, J 40, J 41, J 42, J 43, J 44, iv (↑i : Int), pv wb 0, pv wb 0, pv wb 1, Value.slice fa Fr.length fc, iv (↑Fr.length : Int), Value.bool (decide ((↑i : Int) < (↑Fr.length : Int))), J2 52, J2 53, J2 54, J2 55, J2 56, J2 57, J2 58, J2 59, J2 60, J2 61, J2 62, J2 63, J2 64, J2 65, J2 66, J2 67, J2 68, J2 69, J2 70, J2 71, J2 72, J2 73, J2 74, J2 75, J2 76, J2 77, J2 78, J2 79, tu, tu, tu, tu, tu, tu, tu, tu, tu, tu, tu, tu, tu, tu, tu, tu, tu, tu, tu, tu, tu, tu, tu, tu, tu, tu, tu, tu, tu, tu, tu, tu, tu, tu, tu, tu, tu, tu, tu, tu, tu, tu, tu, tu, tu, tu, tu, tu, tu, tu, tu, tu, tu, tu, tu, tu, tu, tu, tu, tu, tu, tu, tu, tu, tu, tu, tu, tu, tu, tu] [54, 55, 56, 57, 58, 59, 60, 61, 62, 63, 64, 65, 66, 67, 68, 69, 70, 71, 72, 73, 74, 75, 76, 77, 78, 79] (((fun y => [(7, .int .i64 (y.1 : Nat))]) : (Nat × List Int) → List (Nat × Go.Value)) x.1) x.2) (fun x => ((fun y => [ownS 3 1 (.slice (Fr.getD i default).1 (Fr.getD i default).2.length (Fr.getD i default).2.length) (Fr.getD i default).2.length (y.2.map (Value.int .i64)), starL frP (G.eraseIdx i), WR wb v1 fa Fr.length fc wa Wa.length wc xa Ls.length xc ma Ms.length mcp, FH fa fc Fr, IH xa xc Ls, starL ihP Ls, SP ma mcp Ms]) : (Nat × List Int) → List Go.Sl.HP) x.1) (((0, (Fr.getD i default).2)), fun j9 => ([pv wb 0, tu, J 2, iv (↑Ms.length : Int), iv (↑Fr.length : Int), J 5, iv (↑i : Int), iv 0, tu, tu, tu, tu, tu, tu, pv wb 0, pv wb 0, pv wb 4, Value.slice ma Ms.length mcp, iv (↑Ms.length : Int), iv (↑Fr.length : Int), pv wb 0, pv wb 0, pv wb 1, Value.slice fa Fr.length fc, iv (↑Fr.length : Int), Value.bool (decide ((↑Fr.length : Int) < (↑Fr.length : Int))), J 26, J 27, J 28, J 29, J 30, J 31, J 32, J 33, J 34, J 35, J 36, J 37, J 38, J 39, J 40, J 41, J 42, J 43, J 44, iv (↑i : Int), pv wb 0, pv wb 0, pv wb 1, Value.slice fa Fr.length fc, iv (↑Fr.length : Int), Value.bool (decide ((↑i : Int) < (↑Fr.length : Int))), J2 52, J2 53, J2 54, J2 55, J2 56, J2 57, J2 58, J2 59, J2 60, J2 61, J2 62, J2 63, J2 64, J2 65, J2 66, J2 67, J2 68, J2 69, J2 70, J2 71, J2 72, J2 73, J2 74, J2 75, J2 76, J2 77, J2 78, J2 79, tu, tu, tu, tu, tu, tu, tu, tu, tu, tu, tu, tu, tu, tu, tu, tu, tu, tu, tu, tu, tu, tu, tu, tu, tu, tu, tu, tu, tu, tu, tu, tu, tu, tu, tu, tu, tu, tu, tu, tu, tu, tu, tu, tu, tu, tu, tu, tu, tu, tu, tu, tu, tu, tu, tu, tu, tu, tu, tu, tu, tu, tu, tu, tu, tu, tu, tu, tu, tu, tu] : List Value).getD j9 undef) (by kernel_rfl) (by kernel_rfl) ?_ ?_)
      · exact ⟨Nat.zero_le _, rfl, fun k hk => absurd hk (Nat.not_lt_zero k)⟩
      rintro ⟨⟨k, S⟩, J3⟩ hk ih2
      obtain ⟨hk, hSl, hS⟩ := hk
      dsimp only at hk hSl hS
      (focus
        refine Xg.At.same (T' := [pv wb 0, tu, J 2, iv (↑Ms.length : Int), iv (↑Fr.length : Int), J 5, iv (↑i : Int), iv (↑k : Int), tu, tu, tu, tu, tu, tu, pv wb 0, pv wb 0, pv wb 4, Value.slice ma Ms.length mcp, iv (↑Ms.length : Int), iv (↑Fr.length : Int), pv wb 0, pv wb 0, pv wb 1, Value.slice fa Fr.length fc, iv (↑Fr.length : Int), Value.bool (decide ((↑Fr.length : Int) < (↑Fr.length : Int))), J 26, J 27, J 28, J 29, J 30, J 31, J 32, J 33, J 34, J 35, J 36, J 37, J 38, J 39, J 40, J 41, J 42, J 43, J 44, iv (↑i : Int), pv wb 0, pv wb 0, pv wb 1, Value.slice fa Fr.length fc, iv (↑Fr.length : Int), Value.bool (decide ((↑i : Int) < (↑Fr.length : Int))), J2 52, J2 53, J3 54, J3 55, J3 56, J3 57, J3 58, J3 59, J3 60, J3 61, J3 62, J3 63, J3 64, J3 65, J3 66, J3 67, J3 68, J3 69, J3 70, J3 71, J3 72, J3 73, J3 74, J3 75, J3 76, J3 77, J3 78, J3 79, tu, tu, tu, tu, tu, tu, tu, tu, tu, tu, tu, tu, tu, tu, tu, tu, tu, tu, tu, tu, tu, tu, tu, tu, tu, tu, tu, tu, tu, tu, tu, tu, tu, tu, tu, tu, tu, tu, tu, tu, tu, tu, tu, tu, tu, tu, tu, tu, tu, tu, tu, tu, tu, tu, tu, tu, tu, tu, tu, tu, tu, tu, tu, tu, tu, tu, tu, tu, tu, tu]) (L' := [ownS (3 : TypeId) (1 : Nat) (Value.slice (Fr.getD i default).fst (Fr.getD i default).snd.length (Fr.getD i default).snd.length) (Fr.getD i default).snd.length (List.map (Value.int IntKind.i64) ((k, S), J3).fst.snd), starL frP (G.eraseIdx i), WR wb v1 fa Fr.length fc wa Wa.length wc xa Ls.length xc ma Ms.length mcp, FH fa fc Fr, IH xa xc Ls, starL ihP Ls, SP ma mcp Ms]) (by kernel_rfl) rfl ?_)
      by_cases hkl : k < (Fr.getD i default).2.length
      · have hSl2 : ((k, S), J3).fst.snd.length = (Fr.getD i default).2.length := hSl
        refine Xg.at_off 0 rfl (by omega) fun hoff => ?_
        (focus
          refine Xg.at_seq ?_
          refine Xg.at_seq ?_
          refine Xg.at_region ?_
          refine Xg.ops_op (by kernel_rfl) (Xg.opx_pure ((iv (↑k : Int))) rfl (fun _ => by kernel_rfl) ?_)
          refine Xg.ops_op (by kernel_rfl) (Xg.opx_pure ((pv wb 0)) rfl (fun _ => by kernel_rfl) ?_)
          refine Xg.ops_op (by kernel_rfl) (Xg.opx_pure ((pv wb 0)) rfl (fun _ => by kernel_rfl) ?_)
          refine Xg.ops_op (by kernel_rfl) (Xg.opx_pure ((pv wb 1)) rfl (fun _ => by kernel_rfl) ?_)
          refine Xg.ops_op (by kernel_rfl) (Xg.opx_load (b := wb) (off := ((1 : Nat))) 2 (Value.slice fa Fr.length fc) rfl (by kernel_rfl) (by kernel_rfl) (by kernel_rfl) ?_)
          refine Xg.ops_op (by kernel_rfl) (Xg.opx_pure ((iv (↑i : Int))) rfl (fun _ => by kernel_rfl) ?_)
          refine Xg.ops_op (by kernel_rfl) (Xg.opx_ix_own (elem := 24) (kd := .i64) (e := ((↑i : Int))) 3 1 i i rfl (by kernel_rfl) (by kernel_rfl) (by kernel_rfl) (by kernel_rfl) rfl (by omega) (by omega) ?_)
          refine Xg.ops_op (by kernel_rfl) (Xg.opx_load_own (a := fa) (off := i) 3 (Value.slice (Fr.getD i default).fst (Fr.getD i default).snd.length (Fr.getD i default).snd.length) rfl (by kernel_rfl) (Xg.get_recs' (wd := 1) (fun _ => rfl) default i 0 (by omega) (by decide) (by omega) (by kernel_rfl)) (by kernel_rfl) ?_)
          refine Xg.ops_op (by kernel_rfl) (Xg.opx_pure ((iv (↑(Fr.getD i default).snd.length : Int))) rfl (fun _ => by kernel_rfl) ?_)
          refine Xg.ops_op (by kernel_rfl) (Xg.opx_pure (.bool (decide ((((↑k : Int)) : Int) < ((↑(Fr.getD i default).snd.length : Int))))) rfl (fun _ => by kernel_rfl) ?_)
          refine Xg.ops_nil ?_
          refine Xg.at_true (t := decide (((↑k : Int) < (↑(Fr.getD i default).snd.length : Int)))) (by kernel_rfl) (decide_eq_true (by omega)) ?_
          refine Xg.at_skip ?_
          refine Xg.at_seq ?_
          refine Xg.at_block ?_
          refine Xg.at_region ?_
          refine Xg.ops_op (by kernel_rfl) (Xg.opx_pure ((pv wb 0)) rfl (fun _ => by kernel_rfl) ?_)
          refine Xg.ops_op (by kernel_rfl) (Xg.opx_pure ((pv wb 0)) rfl (fun _ => by kernel_rfl) ?_)
          refine Xg.ops_op (by kernel_rfl) (Xg.opx_pure ((pv wb 1)) rfl (fun _ => by kernel_rfl) ?_)
          refine Xg.ops_op (by kernel_rfl) (Xg.opx_load (b := wb) (off := ((1 : Nat))) 2 (Value.slice fa Fr.length fc) rfl (by kernel_rfl) (by kernel_rfl) (by kernel_rfl) ?_)
          refine Xg.ops_op (by kernel_rfl) (Xg.opx_pure ((iv (↑i : Int))) rfl (fun _ => by kernel_rfl) ?_)
          refine Xg.ops_op (by kernel_rfl) (Xg.opx_ix_own (elem := 24) (kd := .i64) (e := ((↑i : Int))) 3 1 i i rfl (by kernel_rfl) (by kernel_rfl) (by kernel_rfl) (by kernel_rfl) rfl (by omega) (by omega) ?_)
          refine Xg.ops_op (by kernel_rfl) (Xg.opx_load_own (a := fa) (off := i) 3 (Value.slice (Fr.getD i default).fst (Fr.getD i default).snd.length (Fr.getD i default).snd.length) rfl (by kernel_rfl) (Xg.get_recs' (wd := 1) (fun _ => rfl) default i 0 (by omega) (by decide) (by omega) (by kernel_rfl)) (by kernel_rfl) ?_)
          refine Xg.ops_op (by kernel_rfl) (Xg.opx_pure ((iv (↑k : Int))) rfl (fun _ => by kernel_rfl) ?_)
          refine Xg.ops_op (by kernel_rfl) (Xg.opx_pure ((iv (↑Ms.length : Int))) rfl (fun _ => by kernel_rfl) ?_)
          refine Xg.ops_op (by kernel_rfl) (Xg.opx_int .i64 (IntKind.wrap .i64 (((-2 : Int) - (↑Ms.length : Int)))) rfl (fun _ => by kernel_rfl) (Xg.wrap_i64_in (by omega)) ?_)
          refine Xg.ops_op (by kernel_rfl) (Xg.opx_pure ((iv (↑i : Int))) rfl (fun _ => by kernel_rfl) ?_)
          refine Xg.ops_op (by kernel_rfl) (Xg.opx_int .i64 (IntKind.wrap .i64 (((4 : Int) * (↑i : Int)))) rfl (fun _ => by kernel_rfl) (Xg.wrap_i64_in (by omega)) ?_)
          refine Xg.ops_op (by kernel_rfl) (Xg.opx_int .i64 (IntKind.wrap .i64 (((-2 : Int) - (↑Ms.length : Int) - (4 : Int) * (↑i : Int)))) rfl (fun _ => by kernel_rfl) (Xg.wrap_i64_in (by omega)) ?_)
          refine Xg.ops_op (by kernel_rfl) (Xg.opx_ix_own (elem := 3) (kd := .i64) (e := ((↑k : Int))) 0 1 k k rfl (by kernel_rfl) (by kernel_rfl) (by kernel_rfl) (by kernel_rfl) rfl (by omega) (by omega) ?_)
          refine Xg.ops_op (by kernel_rfl) (Xg.opx_store_own_i (a := ((Fr.getD i default).fst)) (off := k) (kd := .i64) (xs := (((k, S), J3).fst.snd)) (e := ((-2 : Int) - (↑Ms.length : Int) - (4 : Int) * (↑i : Int))) 0 (by kernel_rfl) rfl (by kernel_rfl) (by kernel_rfl) (by first | omega | (simp only [List.length_set]; omega)) ?_)
          refine Xg.ops_nil ?_
          refine Xg.at_inBlock ?_
          refine Xg.at_region ?_
          refine Xg.ops_op (by kernel_rfl) (Xg.opx_pure ((iv (↑k : Int))) rfl (fun _ => by kernel_rfl) ?_)
          refine Xg.ops_op (by kernel_rfl) (Xg.opx_int .i64 (IntKind.wrap .i64 (((↑k : Int) + (1 : Int)))) rfl (fun _ => by kernel_rfl) (Xg.wrap_i64_in (by omega)) ?_)
          refine Xg.ops_op (by kernel_rfl) (Xg.opx_pure ((iv ((↑k : Int) + (1 : Int)))) rfl (fun _ => by kernel_rfl) ?_)
          refine Xg.ops_nil ?_
          refine Xg.at_inLoop ?_)
        (focus
          refine Xg.at_keep [0, 1, 2, 3, 4, 5, 6] (by kernel_rfl) ?_
          refine Xs.same ?_ (fun J9 => ih2 (((k + 1, S.set k ((-2 : Int) - (Ms.length : Nat) - (4 : Int) * (i : Nat)))), J9) ?_ ?_) (by kernel_rfl))
        · rfl
        · refine ⟨hkl, by rw [List.length_set]; exact hSl, fun t ht => ?_⟩
          show (S.set k (markI Ms.length i)).getD t 0 = _
          by_cases e : t = k
          · subst e; rw [List.getD_eq_getElem?_getD, List.getElem?_set_self (by omega)]; rfl
          · rw [List.getD_eq_getElem?_getD, List.getElem?_set_ne (fun e2 => e e2.symm), ← List.getD_eq_getElem?_getD]
            exact hS t (by have : t < k + 1 := ht; omega)
        · dsimp only; omega
      · obtain rfl : k = (Fr.getD i default).2.length := by omega
        clear ih2
        have hG2 := hG.step hlt S hSl hS
        have eP : ownS 3 1 (.slice (Fr.getD i default).1 (Fr.getD i default).2.length (Fr.getD i default).2.length) (Fr.getD i default).2.length (S.map (Value.int .i64)) = frP ((Fr.getD i default).1, S) := by
          show _ = ownS 3 1 (.slice (Fr.getD i default).1 S.length S.length) S.length (S.map (Value.int .i64))
          rw [hSl]
        (focus
          refine Xg.at_seq ?_
          refine Xg.at_seq ?_
          refine Xg.at_region ?_
          refine Xg.ops_op (by kernel_rfl) (Xg.opx_pure ((iv (↑(Fr.getD i default).snd.length : Int))) rfl (fun _ => by kernel_rfl) ?_)
          refine Xg.ops_op (by kernel_rfl) (Xg.opx_pure ((pv wb 0)) rfl (fun _ => by kernel_rfl) ?_)
          refine Xg.ops_op (by kernel_rfl) (Xg.opx_pure ((pv wb 0)) rfl (fun _ => by kernel_rfl) ?_)
          refine Xg.ops_op (by kernel_rfl) (Xg.opx_pure ((pv wb 1)) rfl (fun _ => by kernel_rfl) ?_)
          refine Xg.ops_op (by kernel_rfl) (Xg.opx_load (b := wb) (off := ((1 : Nat))) 2 (Value.slice fa Fr.length fc) rfl (by kernel_rfl) (by kernel_rfl) (by kernel_rfl) ?_)
          refine Xg.ops_op (by kernel_rfl) (Xg.opx_pure ((iv (↑i : Int))) rfl (fun _ => by kernel_rfl) ?_)
          refine Xg.ops_op (by kernel_rfl) (Xg.opx_ix_own (elem := 24) (kd := .i64) (e := ((↑i : Int))) 3 1 i i rfl (by kernel_rfl) (by kernel_rfl) (by kernel_rfl) (by kernel_rfl) rfl (by omega) (by omega) ?_)
          refine Xg.ops_op (by kernel_rfl) (Xg.opx_load_own (a := fa) (off := i) 3 (Value.slice (Fr.getD i default).fst (Fr.getD i default).snd.length (Fr.getD i default).snd.length) rfl (by kernel_rfl) (Xg.get_recs' (wd := 1) (fun _ => rfl) default i 0 (by omega) (by decide) (by omega) (by kernel_rfl)) (by kernel_rfl) ?_)
          refine Xg.ops_op (by kernel_rfl) (Xg.opx_pure ((iv (↑(Fr.getD i default).snd.length : Int))) rfl (fun _ => by kernel_rfl) ?_)
          refine Xg.ops_op (by kernel_rfl) (Xg.opx_pure (.bool (decide ((((↑(Fr.getD i default).snd.length : Int)) : Int) < ((↑(Fr.getD i default).snd.length : Int))))) rfl (fun _ => by kernel_rfl) ?_)
          refine Xg.ops_nil ?_
          refine Xg.at_false (t := decide (((↑(Fr.getD i default).snd.length : Int) < (↑(Fr.getD i default).snd.length : Int)))) (by kernel_rfl) (decide_eq_false (by omega)) ?_
          refine Xg.at_exit rfl ?_
          refine Xg.at_inBlock ?_
          refine Xg.at_region ?_
          refine Xg.ops_op (by kernel_rfl) (Xg.opx_pure ((iv (↑i : Int))) rfl (fun _ => by kernel_rfl) ?_)
          refine Xg.ops_op (by kernel_rfl) (Xg.opx_int .i64 (IntKind.wrap .i64 (((↑i : Int) + (1 : Int)))) rfl (fun _ => by kernel_rfl) (Xg.wrap_i64_in (by omega)) ?_)
          refine Xg.ops_op (by kernel_rfl) (Xg.opx_pure ((iv ((↑i : Int) + (1 : Int)))) rfl (fun _ => by kernel_rfl) ?_)
          refine Xg.ops_nil ?_
          refine Xg.at_inLoop ?_)
        refine at_head eP (at_L_put (cs := frP) (x := ((Fr.getD i default).1, S)) hGl ?_)
        (focus
          refine Xg.at_keep [0, 1, 2, 3, 4, 5] (by kernel_rfl) ?_
          refine Xs.same ?_ (fun J9 => ih (((i + 1, G.set i ((Fr.getD i default).1, S))), J9) ?_ ?_) (by kernel_rfl))
        · rfl
        · exact ⟨hlt, hG2⟩
        · dsimp only; omega
    · obtain rfl : i = Fr.length := by omega
      clear ih
      have eFH : FH fa fc Fr = FH fa fc G := by
        show ownS 24 1 (.slice fa Fr.length fc) Fr.length (recs frK Fr) = ownS 24 1 (.slice fa G.length fc) G.length (recs frK G)
        rw [frk_same Fr G hG.1 fun j hj => ⟨(hG.2 j hj).1, (hG.2 j hj).2.1⟩, hG.1]
      have eL : [starL frP G, WR wb v1 fa Fr.length fc wa Wa.length wc xa Ls.length xc ma Ms.length mcp, FH fa fc Fr, IH xa xc Ls, starL ihP Ls, SP ma mcp Ms] = [starL frP (G.drop 0), WR wb v1 fa G.length fc wa Wa.length wc xa Ls.length xc ma Ms.length mcp, FH fa fc G, IH xa xc Ls, starL ihP Ls, SP ma mcp Ms] := by
        rw [eFH, hG.1, List.drop_zero]
      have hGl := hG.1
      have hGm : ∀ j, j < G.length → (G.getD j default).2.length ≤ 64 ∧ ∀ k, k < (G.getD j default).2.length → (G.getD j default).2.getD k 0 = markI Ms.length j := fun j hj => by
        obtain ⟨b1, b2, b3, b4⟩ := hG.2 j (by omega)
        rw [b2]
        exact ⟨(hF3 j (by omega)).2, b4 (by omega)⟩
      (focus
        refine Xg.at_seq ?_
        refine Xg.at_seq ?_
        refine Xg.at_region ?_
        refine Xg.ops_op (by kernel_rfl) (Xg.opx_pure ((iv (↑Fr.length : Int))) rfl (fun _ => by kernel_rfl) ?_)
        refine Xg.ops_op (by kernel_rfl) (Xg.opx_pure ((pv wb 0)) rfl (fun _ => by kernel_rfl) ?_)
        refine Xg.ops_op (by kernel_rfl) (Xg.opx_pure ((pv wb 0)) rfl (fun _ => by kernel_rfl) ?_)
        refine Xg.ops_op (by kernel_rfl) (Xg.opx_pure ((pv wb 1)) rfl (fun _ => by kernel_rfl) ?_)
        refine Xg.ops_op (by kernel_rfl) (Xg.opx_load (b := wb) (off := ((1 : Nat))) 1 (Value.slice fa Fr.length fc) rfl (by kernel_rfl) (by kernel_rfl) (by kernel_rfl) ?_)
        refine Xg.ops_op (by kernel_rfl) (Xg.opx_pure ((iv (↑Fr.length : Int))) rfl (fun _ => by kernel_rfl) ?_)
        refine Xg.ops_op (by kernel_rfl) (Xg.opx_pure (.bool (decide ((((↑Fr.length : Int)) : Int) < ((↑Fr.length : Int))))) rfl (fun _ => by kernel_rfl) ?_)
        refine Xg.ops_nil ?_
        refine Xg.at_false (t := decide (((↑Fr.length : Int) < (↑Fr.length : Int)))) (by kernel_rfl) (decide_eq_false (by omega)) ?_
        refine Xg.at_exit rfl ?_
        refine Xg.at_seq ?_
        refine Xg.at_seq ?_
        refine Xg.at_region ?_
        refine Xg.ops_op (by kernel_rfl) (Xg.opx_pure ((iv 0)) rfl (fun _ => by kernel_rfl) ?_)
        refine Xg.ops_nil ?_
        refine Xg.at_block ?_)
      refine Xg.At.same rfl eL ?_
      (focus
        refine Xg.at_rounds_inv (α := (Nat × (Option Addr × Nat × List (Option Addr × Nat × List Int)) × (Option Addr × Nat × List Int)) × (Nat → Value)) (fun x => ((fun y => y.1 ≤ G.length ∧ Marked y.2.1.2.2 y.2.2.2.2 ∧ y.2.1.2.2.length = Ls.length + 4 * y.1) : (Nat × (Option Addr × Nat × List (Option Addr × Nat × List Int)) × (Option Addr × Nat × List Int)) → Prop) x.1) (fun x => ((fun y => G.length - y.1) : (Nat × (Option Addr × Nat × List (Option Addr × Nat × List Int)) × (Option Addr × Nat × List Int)) → Nat) x.1) (fun x => Xg.headT [pv wb 0, tu, J 2, iv (↑Ms.length : Int), iv (↑Fr.length : Int), J 5, iv (↑Fr.length : Int), J2 7, iv 0, tu, tu, tu, tu, tu, pv wb 0, pv wb 0, pv wb 4, Value.slice ma Ms.length mcp, iv (↑Ms.length : Int), iv (↑Fr.length : Int), pv wb 0, pv wb 0, pv wb 1, Value.slice fa Fr.length fc, iv (↑Fr.length : Int), Value.bool (decide ((↑Fr.length : Int) < (↑Fr.length : Int))), J 26, J 27, J 28, J 29, J 30, J 31, J 32, J 33, J 34, J 35, J 36, J 37, J 38, J 39, J 40, J 41, J 42, J 43, J 44, iv (↑Fr.length : Int), pv wb 0, pv wb 0, pv wb 1, Value.slice fa Fr.length fc, iv (↑Fr.length : Int), Value.bool (decide ((↑Fr.length : Int) < (↑Fr.length : Int))), J2 52, J2 53, J2 54, J2 55, J2 56, J2 57, J2 58, J2 59, J2 60, J2 61, J2 62, J2 63, J2 64, J2 65, J2 66, J2 67, J2 68, J2 69, J2 70, J2 71, J2 72, J2 73, J2 74, J2 75, J2 76, J2 77, J2 78, J2 79, tu, tu, tu, tu, tu, tu, tu, tu, tu, tu, tu, tu, tu, tu, tu, tu, tu, tu, tu, tu, tu, tu, tu, tu, tu, tu, tu, tu, tu, tu, tu, tu, tu, tu, tu, tu, tu, tu, tu, tu, tu, tu, tu, tu, tu, tu, tu, tu, tu, tu, tu, tu, tu, tu, tu, tu, tu, tu, tu, tu, tu, tu, tu, tu, tu, tu, tu, tu, tu, tu] [9, 10, 11, 12, 13, 80, 81, 82, 83, 84, 85, 86, 87, 88, 89, 90, 91, 92, 93, 94, 95, 96, 97, 98, 99, 100, 101, 102, 103, 104, 105, 106, 107, 108, 109, 110, 111, 112, 113, 114, 115, 116, 117, 118, 119, 120, 121, 122, 123, 124, 125, 126, 127, 128, 129, 130, 131, 132, 133, 134, 135, 136, 137, 138, 139, 140, 141] (((fun y => [(8, .int .i64 (y.1 : Nat))]) : (Nat × (Option Addr × Nat × List (Option Addr × Nat × List Int)) × (Option Addr × Nat × List Int)) → List (Nat × Go.Value)) x.1) x.2) (fun x => ((fun y => [starL frP (G.drop y.1), WR wb v1 fa G.length fc wa Wa.length wc y.2.1.1 y.2.1.2.2.length y.2.1.2.1 y.2.2.1 y.2.2.2.2.length y.2.2.2.1, FH fa fc G, IH y.2.1.1 y.2.1.2.1 y.2.1.2.2, starL ihP y.2.1.2.2, SP y.2.2.1 y.2.2.2.1 y.2.2.2.2]) : (Nat × (Option Addr × Nat × List (Option Addr × Nat × List Int)) × (Option Addr × Nat × List Int)) → List Go.Sl.HP) x.1) (((0, (xa, xc, Ls), (ma, mcp, Ms))), fun j9 => ([pv wb 0, tu, J 2, iv (↑Ms.length : Int), iv (↑Fr.length : Int), J 5, iv (↑Fr.length : Int), J2 7, iv 0, tu, tu, tu, tu, tu, pv wb 0, pv wb 0, pv wb 4, Value.slice ma Ms.length mcp, iv (↑Ms.length : Int), iv (↑Fr.length : Int), pv wb 0, pv wb 0, pv wb 1, Value.slice fa Fr.length fc, iv (↑Fr.length : Int), Value.bool (decide ((↑Fr.length : Int) < (↑Fr.length : Int))), J 26, J 27, J 28, J 29, J 30, J 31, J 32, J 33, J 34, J 35, J 36, J 37, J 38, J 39, J 40, J 41, J 42, J 43, J 44, iv (↑Fr.length : Int), pv wb 0, pv wb 0, pv wb 1, Value.slice fa Fr.length fc, iv (↑Fr.length : Int), Value.bool (decide ((↑Fr.length : Int) < (↑Fr.length : Int))), J2 52, J2 53, J2 54, J2 55, J2 56, J2 57, J2 58, J2 59, J2 60, J2 61, J2 62, J2 63, J2 64, J2 65, J2 66, J2 67, J2 68, J2 69, J2 70, J2 71, J2 72, J2 73, J2 74, J2 75, J2 76, J2 77, J2 78, J2 79, tu, tu, tu, tu, tu, tu, tu, tu, tu, tu, tu, tu, tu, tu, tu, tu, tu, tu, tu, tu, tu, tu, tu, tu, tu, tu, tu, tu, tu, tu, tu, tu, tu, tu, tu, tu, tu, tu, tu, tu, tu, tu, tu, tu, tu, tu, tu, tu, tu, tu, tu, tu, tu, tu, tu, tu, tu, tu, tu, tu, tu, tu, tu, tu, tu, tu, tu, tu, tu, tu] : List Value).getD j9 undef) (by kernel_rfl) (by kernel_rfl) ?_ ?_)
      · exact ⟨Nat.zero_le _, hM, rfl⟩
      rintro ⟨⟨i, ⟨ya, yc, Y⟩, ⟨na, nc, N⟩⟩, J4⟩ hi ih
      obtain ⟨hi, hY, hYl⟩ := hi
      dsimp only at hi hY hYl
      (focus
        refine Xg.At.same (T' := [pv wb 0, tu, J 2, iv (↑Ms.length : Int), iv (↑Fr.length : Int), J 5, iv (↑Fr.length : Int), J2 7, iv (↑i : Int), ((i, (ya, yc, Y), na, nc, N), J4).snd (9 : Nat), ((i, (ya, yc, Y), na, nc, N), J4).snd (10 : Nat), ((i, (ya, yc, Y), na, nc, N), J4).snd (11 : Nat), ((i, (ya, yc, Y), na, nc, N), J4).snd (12 : Nat), ((i, (ya, yc, Y), na, nc, N), J4).snd (13 : Nat), pv wb 0, pv wb 0, pv wb 4, Value.slice ma Ms.length mcp, iv (↑Ms.length : Int), iv (↑Fr.length : Int), pv wb 0, pv wb 0, pv wb 1, Value.slice fa Fr.length fc, iv (↑Fr.length : Int), Value.bool (decide ((↑Fr.length : Int) < (↑Fr.length : Int))), J 26, J 27, J 28, J 29, J 30, J 31, J 32, J 33, J 34, J 35, J 36, J 37, J 38, J 39, J 40, J 41, J 42, J 43, J 44, iv (↑Fr.length : Int), pv wb 0, pv wb 0, pv wb 1, Value.slice fa Fr.length fc, iv (↑Fr.length : Int), Value.bool (decide ((↑Fr.length : Int) < (↑Fr.length : Int))), J2 52, J2 53, J2 54, J2 55, J2 56, J2 57, J2 58, J2 59, J2 60, J2 61, J2 62, J2 63, J2 64, J2 65, J2 66, J2 67, J2 68, J2 69, J2 70, J2 71, J2 72, J2 73, J2 74, J2 75, J2 76, J2 77, J2 78, J2 79, ((i, (ya, yc, Y), na, nc, N), J4).snd (80 : Nat), ((i, (ya, yc, Y), na, nc, N), J4).snd (81 : Nat), ((i, (ya, yc, Y), na, nc, N), J4).snd (82 : Nat), ((i, (ya, yc, Y), na, nc, N), J4).snd (83 : Nat), ((i, (ya, yc, Y), na, nc, N), J4).snd (84 : Nat), ((i, (ya, yc, Y), na, nc, N), J4).snd (85 : Nat), ((i, (ya, yc, Y), na, nc, N), J4).snd (86 : Nat), ((i, (ya, yc, Y), na, nc, N), J4).snd (87 : Nat), ((i, (ya, yc, Y), na, nc, N), J4).snd (88 : Nat), ((i, (ya, yc, Y), na, nc, N), J4).snd (89 : Nat), ((i, (ya, yc, Y), na, nc, N), J4).snd (90 : Nat), ((i, (ya, yc, Y), na, nc, N), J4).snd (91 : Nat), ((i, (ya, yc, Y), na, nc, N), J4).snd (92 : Nat), ((i, (ya, yc, Y), na, nc, N), J4).snd (93 : Nat), ((i, (ya, yc, Y), na, nc, N), J4).snd (94 : Nat), ((i, (ya, yc, Y), na, nc, N), J4).snd (95 : Nat), ((i, (ya, yc, Y), na, nc, N), J4).snd (96 : Nat), ((i, (ya, yc, Y), na, nc, N), J4).snd (97 : Nat), ((i, (ya, yc, Y), na, nc, N), J4).snd (98 : Nat), ((i, (ya, yc, Y), na, nc, N), J4).snd (99 : Nat), ((i, (ya, yc, Y), na, nc, N), J4).snd (100 : Nat), ((i, (ya, yc, Y), na, nc, N), J4).snd (101 : Nat), ((i, (ya, yc, Y), na, nc, N), J4).snd (102 : Nat), ((i, (ya, yc, Y), na, nc, N), J4).snd (103 : Nat), ((i, (ya, yc, Y), na, nc, N), J4).snd (104 : Nat), ((i, (ya, yc, Y), na, nc, N), J4).snd (105 : Nat), ((i, (ya, yc, Y), na, nc, N), J4).snd (106 : Nat), ((i, (ya, yc, Y), na, nc, N), J4).snd (107 : Nat), ((i, (ya, yc, Y), na, nc, N), J4).snd (108 : Nat), ((i, (ya, yc, Y), na, nc, N), J4).snd (109 : Nat), ((i, (ya, yc, Y), na, nc, N), J4).snd (110 : Nat), ((i, (ya, yc, Y), na, nc, N), J4).snd (111 : Nat), ((i, (ya, yc, Y), na, nc, N), J4).snd (112 : Nat), ((i, (ya, yc, Y), na, nc, N), J4).snd (113 : Nat), ((i, (ya, yc, Y), na, nc, N), J4).snd (114 : Nat), ((i, (ya, yc, Y), na, nc, N), J4).snd (115 : Nat), ((i, (ya, yc, Y), na, nc, N), J4).snd (116 : Nat), ((i, (ya, yc, Y), na, nc, N), J4).snd (117 : Nat), ((i, (ya, yc, Y), na, nc, N), J4).snd (118 : Nat), ((i, (ya, yc, Y), na, nc, N), J4).snd (119 : Nat), ((i, (ya, yc, Y), na, nc, N), J4).snd (120 : Nat), ((i, (ya, yc, Y), na, nc, N), J4).snd (121 : Nat), ((i, (ya, yc, Y), na, nc, N), J4).snd (122 : Nat), ((i, (ya, yc, Y), na, nc, N), J4).snd (123 : Nat), ((i, (ya, yc, Y), na, nc, N), J4).snd (124 : Nat), ((i, (ya, yc, Y), na, nc, N), J4).snd (125 : Nat), ((i, (ya, yc, Y), na, nc, N), J4).snd (126 : Nat), ((i, (ya, yc, Y), na, nc, N), J4).snd (127 : Nat), ((i, (ya, yc, Y), na, nc, N), J4).snd (128 : Nat), ((i, (ya, yc, Y), na, nc, N), J4).snd (129 : Nat), ((i, (ya, yc, Y), na, nc, N), J4).snd (130 : Nat), ((i, (ya, yc, Y), na, nc, N), J4).snd (131 : Nat), ((i, (ya, yc, Y), na, nc, N), J4).snd (132 : Nat), ((i, (ya, yc, Y), na, nc, N), J4).snd (133 : Nat), ((i, (ya, yc, Y), na, nc, N), J4).snd (134 : Nat), ((i, (ya, yc, Y), na, nc, N), J4).snd (135 : Nat), ((i, (ya, yc, Y), na, nc, N), J4).snd (136 : Nat), ((i, (ya, yc, Y), na, nc, N), J4).snd (137 : Nat), ((i, (ya, yc, Y), na, nc, N), J4).snd (138 : Nat), ((i, (ya, yc, Y), na, nc, N), J4).snd (139 : Nat), ((i, (ya, yc, Y), na, nc, N), J4).snd (140 : Nat), ((i, (ya, yc, Y), na, nc, N), J4).snd (141 : Nat), tu, tu, tu, tu, tu, tu, tu, tu]) (L' := [starL frP (List.drop ((i, (ya, yc, Y), na, nc, N), J4).fst.fst G), WR wb v1 fa G.length fc wa Wa.length wc ((i, (ya, yc, Y), na, nc, N), J4).fst.snd.fst.fst ((i, (ya, yc, Y), na, nc, N), J4).fst.snd.fst.snd.snd.length ((i, (ya, yc, Y), na, nc, N), J4).fst.snd.fst.snd.fst ((i, (ya, yc, Y), na, nc, N), J4).fst.snd.snd.fst ((i, (ya, yc, Y), na, nc, N), J4).fst.snd.snd.snd.snd.length ((i, (ya, yc, Y), na, nc, N), J4).fst.snd.snd.snd.fst, FH fa fc G, IH ((i, (ya, yc, Y), na, nc, N), J4).fst.snd.fst.fst ((i, (ya, yc, Y), na, nc, N), J4).fst.snd.fst.snd.fst ((i, (ya, yc, Y), na, nc, N), J4).fst.snd.fst.snd.snd, starL ihP ((i, (ya, yc, Y), na, nc, N), J4).fst.snd.fst.snd.snd, SP ((i, (ya, yc, Y), na, nc, N), J4).fst.snd.snd.fst ((i, (ya, yc, Y), na, nc, N), J4).fst.snd.snd.snd.fst ((i, (ya, yc, Y), na, nc, N), J4).fst.snd.snd.snd.snd]) (by kernel_rfl) rfl ?_)
      have hY1 := hY.1
      by_cases hlt : i < G.length
      · obtain ⟨c1, c2⟩ := hGm i hlt
        refine at_drop (l := G) (i := i) default hlt ?_
        (focus
          refine Xg.at_seq ?_
          refine Xg.at_seq ?_
          refine Xg.at_region ?_
          refine Xg.ops_op (by kernel_rfl) (Xg.opx_pure ((iv (↑i : Int))) rfl (fun _ => by kernel_rfl) ?_)
          refine Xg.ops_op (by kernel_rfl) (Xg.opx_pure ((pv wb 0)) rfl (fun _ => by kernel_rfl) ?_)
          refine Xg.ops_op (by kernel_rfl) (Xg.opx_pure ((pv wb 0)) rfl (fun _ => by kernel_rfl) ?_)
          refine Xg.ops_op (by kernel_rfl) (Xg.opx_pure ((pv wb 1)) rfl (fun _ => by kernel_rfl) ?_)
          refine Xg.ops_op (by kernel_rfl) (Xg.opx_load (b := wb) (off := ((1 : Nat))) 2 (Value.slice fa G.length fc) rfl (by kernel_rfl) (by kernel_rfl) (by kernel_rfl) ?_)
          refine Xg.ops_op (by kernel_rfl) (Xg.opx_pure ((iv (↑G.length : Int))) rfl (fun _ => by kernel_rfl) ?_)
          refine Xg.ops_op (by kernel_rfl) (Xg.opx_pure (.bool (decide ((((↑i : Int)) : Int) < ((↑G.length : Int))))) rfl (fun _ => by kernel_rfl) ?_)
          refine Xg.ops_nil ?_
          refine Xg.at_true (t := decide (((↑i : Int) < (↑G.length : Int)))) (by kernel_rfl) (decide_eq_true (by omega)) ?_
          refine Xg.at_skip ?_
          refine Xg.at_seq ?_
          refine Xg.at_block ?_
          refine Xg.at_seq ?_
          refine Xg.at_region ?_
          refine Xg.ops_op (by kernel_rfl) (Xg.opx_pure ((pv wb 0)) rfl (fun _ => by kernel_rfl) ?_)
          refine Xg.ops_op (by kernel_rfl) (Xg.opx_pure ((pv wb 0)) rfl (fun _ => by kernel_rfl) ?_)
          refine Xg.ops_op (by kernel_rfl) (Xg.opx_pure ((pv wb 1)) rfl (fun _ => by kernel_rfl) ?_)
          refine Xg.ops_op (by kernel_rfl) (Xg.opx_load (b := wb) (off := ((1 : Nat))) 2 (Value.slice fa G.length fc) rfl (by kernel_rfl) (by kernel_rfl) (by kernel_rfl) ?_)
          refine Xg.ops_op (by kernel_rfl) (Xg.opx_pure ((iv (↑i : Int))) rfl (fun _ => by kernel_rfl) ?_)
          refine Xg.ops_op (by kernel_rfl) (Xg.opx_ix_own (elem := 24) (kd := .i64) (e := ((↑i : Int))) 3 1 i i rfl (by kernel_rfl) (by kernel_rfl) (by kernel_rfl) (by kernel_rfl) rfl (by omega) (by omega) ?_)
          refine Xg.ops_op (by kernel_rfl) (Xg.opx_load_own (a := fa) (off := i) 3 (Value.slice (G.getD i default).fst (G.getD i default).snd.length (G.getD i default).snd.length) rfl (by kernel_rfl) (Xg.get_recs' (wd := 1) (fun _ => rfl) default i 0 (by omega) (by decide) (by omega) (by kernel_rfl)) (by kernel_rfl) ?_)
          refine Xg.ops_op (by kernel_rfl) (Xg.opx_pure ((Value.slice (G.getD i default).fst (G.getD i default).snd.length (G.getD i default).snd.length)) rfl (fun _ => by kernel_rfl) ?_)
          refine Xg.ops_nil ?_
          refine Xg.at_seq ?_
          refine Xg.at_region ?_
          refine Xg.ops_op (by kernel_rfl) (Xg.opx_pure ((iv (↑Ms.length : Int))) rfl (fun _ => by kernel_rfl) ?_)
          refine Xg.ops_op (by kernel_rfl) (Xg.opx_int .i64 (IntKind.wrap .i64 (((-2 : Int) - (↑Ms.length : Int)))) rfl (fun _ => by kernel_rfl) (Xg.wrap_i64_in (by omega)) ?_)
          refine Xg.ops_op (by kernel_rfl) (Xg.opx_pure ((iv (↑i : Int))) rfl (fun _ => by kernel_rfl) ?_)
          refine Xg.ops_op (by kernel_rfl) (Xg.opx_int .i64 (IntKind.wrap .i64 (((4 : Int) * (↑i : Int)))) rfl (fun _ => by kernel_rfl) (Xg.wrap_i64_in (by omega)) ?_)
          refine Xg.ops_op (by kernel_rfl) (Xg.opx_int .i64 (IntKind.wrap .i64 (((-2 : Int) - (↑Ms.length : Int) - (4 : Int) * (↑i : Int)))) rfl (fun _ => by kernel_rfl) (Xg.wrap_i64_in (by omega)) ?_)
          refine Xg.ops_op (by kernel_rfl) (Xg.opx_pure ((iv ((-2 : Int) - (↑Ms.length : Int) - (4 : Int) * (↑i : Int)))) rfl (fun _ => by kernel_rfl) ?_)
          refine Xg.ops_nil ?_
          refine Xg.at_seq ?_
          refine Xg.at_region ?_
          refine Xg.ops_op (by kernel_rfl) (Xg.opx_pure ((Value.slice (G.getD i default).fst (G.getD i default).snd.length (G.getD i default).snd.length)) rfl (fun _ => by kernel_rfl) ?_)
          refine Xg.ops_op (by kernel_rfl) (Xg.opx_pure ((iv ((-2 : Int) - (↑Ms.length : Int) - (4 : Int) * (↑i : Int)))) rfl (fun _ => by kernel_rfl) ?_)
          refine Xg.ops_op (by kernel_rfl) (Xg.opx_bs (elem := 3) 1 [iv ((-2 : Int) - (↑Ms.length : Int) - (4 : Int) * (↑i : Int))] [iv ((-2 : Int) - (↑Ms.length : Int) - (4 : Int) * (↑i : Int))] (by kernel_rfl) (by kernel_rfl) (by decide) rfl (by kernel_rfl) (by kernel_rfl) (by kernel_rfl) (by kernel_rfl) fun xb1 => ?_)
          refine Xg.ops_op (by kernel_rfl) (Xg.opx_append_full_ints (kd := .i64) (yv := (Value.slice (some (Addr.mk xb1 (0 : Nat) none)) (1 : Nat) (1 : Nat))) (m := ((1 : Nat))) (xs := ((G.getD i default).snd)) (ys := [(-2 : Int) - (↑Ms.length : Int) - (4 : Int) * (↑i : Int)]) (elem := 3) 8 (by kernel_rfl) (by kernel_rfl) (by kernel_rfl) (by kernel_rfl) (by first | rfl | assumption | omega | (simp; done) | (simp; omega)) (fun _ hS => Xg.own_rd hS 1 rfl) (fun _ hS => Xg.row_rd hS 0 rfl (by kernel_rfl)) (by first | omega | (simp; omega)) (by first | omega | (simp; omega)) (by first | omega | (simp; omega)) fun xa1 xc1 => ?_)
          have xl1 : (((G.getD i default).snd) ++ [(-2 : Int) - (↑Ms.length : Int) - (4 : Int) * (↑i : Int)] : List Int).length = (((G.getD i default).snd) : List Int).length + ((1 : Nat)) := by first | (simp; done) | (simp; omega)
          refine Xg.ops_op (by kernel_rfl) (Xg.opx_pure ((Value.slice xa1 ((G.getD i default).snd ++ [(-2 : Int) - (↑Ms.length : Int) - (4 : Int) * (↑i : Int)]).length xc1)) rfl (fun _ => by kernel_rfl) ?_)
          refine Xg.ops_nil ?_
          refine Xg.at_seq ?_
          refine Xg.at_region ?_
          refine Xg.ops_op (by kernel_rfl) (Xg.opx_pure ((Value.slice (G.getD i default).fst (G.getD i default).snd.length (G.getD i default).snd.length)) rfl (fun _ => by kernel_rfl) ?_)
          refine Xg.ops_op (by kernel_rfl) (Xg.opx_pure ((iv ((-2 : Int) - (↑Ms.length : Int) - (4 : Int) * (↑i : Int)))) rfl (fun _ => by kernel_rfl) ?_)
          refine Xg.ops_op (by kernel_rfl) (Xg.opx_pure ((iv ((-2 : Int) - (↑Ms.length : Int) - (4 : Int) * (↑i : Int)))) rfl (fun _ => by kernel_rfl) ?_)
          refine Xg.ops_op (by kernel_rfl) (Xg.opx_bs (elem := 3) 1 [iv ((-2 : Int) - (↑Ms.length : Int) - (4 : Int) * (↑i : Int)), iv ((-2 : Int) - (↑Ms.length : Int) - (4 : Int) * (↑i : Int))] [iv ((-2 : Int) - (↑Ms.length : Int) - (4 : Int) * (↑i : Int)), iv ((-2 : Int) - (↑Ms.length : Int) - (4 : Int) * (↑i : Int))] (by kernel_rfl) (by kernel_rfl) (by decide) rfl (by kernel_rfl) (by kernel_rfl) (by kernel_rfl) (by kernel_rfl) fun xb2 => ?_)
          refine Xg.ops_op (by kernel_rfl) (Xg.opx_append_full_ints (kd := .i64) (yv := (Value.slice (some (Addr.mk xb2 (0 : Nat) none)) (2 : Nat) (2 : Nat))) (m := ((2 : Nat))) (xs := ((G.getD i default).snd)) (ys := [(-2 : Int) - (↑Ms.length : Int) - (4 : Int) * (↑i : Int), (-2 : Int) - (↑Ms.length : Int) - (4 : Int) * (↑i : Int)]) (elem := 3) 8 (by kernel_rfl) (by kernel_rfl) (by kernel_rfl) (by kernel_rfl) (by first | rfl | assumption | omega | (simp; done) | (simp; omega)) (fun _ hS => Xg.own_rd hS 3 rfl) (fun _ hS => Xg.row_rd hS 0 rfl (by kernel_rfl)) (by first | omega | (simp; omega)) (by first | omega | (simp; omega)) (by first | omega | (simp; omega)) fun xa2 xc2 => ?_)
          have xl2 : (((G.getD i default).snd) ++ [(-2 : Int) - (↑Ms.length : Int) - (4 : Int) * (↑i : Int), (-2 : Int) - (↑Ms.length : Int) - (4 : Int) * (↑i : Int)] : List Int).length = (((G.getD i default).snd) : List Int).length + ((2 : Nat)) := by first | (simp; done) | (simp; omega)
          refine Xg.ops_op (by kernel_rfl) (Xg.opx_pure ((Value.slice xa2 ((G.getD i default).snd ++ [(-2 : Int) - (↑Ms.length : Int) - (4 : Int) * (↑i : Int), (-2 : Int) - (↑Ms.length : Int) - (4 : Int) * (↑i : Int)]).length xc2)) rfl (fun _ => by kernel_rfl) ?_)
          refine Xg.ops_nil ?_
          refine Xg.at_seq ?_
          refine Xg.at_region ?_
          refine Xg.ops_op (by kernel_rfl) (Xg.opx_pure ((Value.slice (G.getD i default).fst (G.getD i default).snd.length (G.getD i default).snd.length)) rfl (fun _ => by kernel_rfl) ?_)
          refine Xg.ops_op (by kernel_rfl) (Xg.opx_pure ((iv ((-2 : Int) - (↑Ms.length : Int) - (4 : Int) * (↑i : Int)))) rfl (fun _ => by kernel_rfl) ?_)
          refine Xg.ops_op (by kernel_rfl) (Xg.opx_pure ((iv ((-2 : Int) - (↑Ms.length : Int) - (4 : Int) * (↑i : Int)))) rfl (fun _ => by kernel_rfl) ?_)
          refine Xg.ops_op (by kernel_rfl) (Xg.opx_pure ((iv ((-2 : Int) - (↑Ms.length : Int) - (4 : Int) * (↑i : Int)))) rfl (fun _ => by kernel_rfl) ?_)
          refine Xg.ops_op (by kernel_rfl) (Xg.opx_bs (elem := 3) 1 [iv ((-2 : Int) - (↑Ms.length : Int) - (4 : Int) * (↑i : Int)), iv ((-2 : Int) - (↑Ms.length : Int) - (4 : Int) * (↑i : Int)), iv ((-2 : Int) - (↑Ms.length : Int) - (4 : Int) * (↑i : Int))] [iv ((-2 : Int) - (↑Ms.length : Int) - (4 : Int) * (↑i : Int)), iv ((-2 : Int) - (↑Ms.length : Int) - (4 : Int) * (↑i : Int)), iv ((-2 : Int) - (↑Ms.length : Int) - (4 : Int) * (↑i : Int))] (by kernel_rfl) (by kernel_rfl) (by decide) rfl (by kernel_rfl) (by kernel_rfl) (by kernel_rfl) (by kernel_rfl) fun xb3 => ?_)
          refine Xg.ops_op (by kernel_rfl) (Xg.opx_append_full_ints (kd := .i64) (yv := (Value.slice (some (Addr.mk xb3 (0 : Nat) none)) (3 : Nat) (3 : Nat))) (m := ((3 : Nat))) (xs := ((G.getD i default).snd)) (ys := [(-2 : Int) - (↑Ms.length : Int) - (4 : Int) * (↑i : Int), (-2 : Int) - (↑Ms.length : Int) - (4 : Int) * (↑i : Int), (-2 : Int) - (↑Ms.length : Int) - (4 : Int) * (↑i : Int)]) (elem := 3) 8 (by kernel_rfl) (by kernel_rfl) (by kernel_rfl) (by kernel_rfl) (by first | rfl | assumption | omega | (simp; done) | (simp; omega)) (fun _ hS => Xg.own_rd hS 5 rfl) (fun _ hS => Xg.row_rd hS 0 rfl (by kernel_rfl)) (by first | omega | (simp; omega)) (by first | omega | (simp; omega)) (by first | omega | (simp; omega)) fun xa3 xc3 => ?_)
          have xl3 : (((G.getD i default).snd) ++ [(-2 : Int) - (↑Ms.length : Int) - (4 : Int) * (↑i : Int), (-2 : Int) - (↑Ms.length : Int) - (4 : Int) * (↑i : Int), (-2 : Int) - (↑Ms.length : Int) - (4 : Int) * (↑i : Int)] : List Int).length = (((G.getD i default).snd) : List Int).length + ((3 : Nat)) := by first | (simp; done) | (simp; omega)
          refine Xg.ops_op (by kernel_rfl) (Xg.opx_pure ((Value.slice xa3 ((G.getD i default).snd ++ [(-2 : Int) - (↑Ms.length : Int) - (4 : Int) * (↑i : Int), (-2 : Int) - (↑Ms.length : Int) - (4 : Int) * (↑i : Int), (-2 : Int) - (↑Ms.length : Int) - (4 : Int) * (↑i : Int)]).length xc3)) rfl (fun _ => by kernel_rfl) ?_)
          refine Xg.ops_nil ?_
          refine Xg.at_seq ?_
          refine Xg.at_region ?_
          refine Xg.ops_op (by kernel_rfl) (Xg.opx_pure ((pv wb 0)) rfl (fun _ => by kernel_rfl) ?_)
          refine Xg.ops_op (by kernel_rfl) (Xg.opx_pure ((pv wb 0)) rfl (fun _ => by kernel_rfl) ?_)
          refine Xg.ops_op (by kernel_rfl) (Xg.opx_pure ((pv wb 0)) rfl (fun _ => by kernel_rfl) ?_)
          refine Xg.ops_op (by kernel_rfl) (Xg.opx_pure ((pv wb 3)) rfl (fun _ => by kernel_rfl) ?_)
          refine Xg.ops_op (by kernel_rfl) (Xg.opx_load (b := wb) (off := ((3 : Nat))) 8 (Value.slice ya Y.length yc) rfl (by kernel_rfl) (by kernel_rfl) (by kernel_rfl) ?_)
          refine Xg.ops_op (by kernel_rfl) (Xg.opx_pure ((Value.slice (G.getD i default).fst (G.getD i default).snd.length (G.getD i default).snd.length)) rfl (fun _ => by kernel_rfl) ?_)
          refine Xg.ops_op (by kernel_rfl) (Xg.opx_pure ((Value.slice xa1 ((G.getD i default).snd ++ [(-2 : Int) - (↑Ms.length : Int) - (4 : Int) * (↑i : Int)]).length xc1)) rfl (fun _ => by kernel_rfl) ?_)
          refine Xg.ops_op (by kernel_rfl) (Xg.opx_pure ((Value.slice xa2 ((G.getD i default).snd ++ [(-2 : Int) - (↑Ms.length : Int) - (4 : Int) * (↑i : Int), (-2 : Int) - (↑Ms.length : Int) - (4 : Int) * (↑i : Int)]).length xc2)) rfl (fun _ => by kernel_rfl) ?_)
          refine Xg.ops_op (by kernel_rfl) (Xg.opx_pure ((Value.slice xa3 ((G.getD i default).snd ++ [(-2 : Int) - (↑Ms.length : Int) - (4 : Int) * (↑i : Int), (-2 : Int) - (↑Ms.length : Int) - (4 : Int) * (↑i : Int), (-2 : Int) - (↑Ms.length : Int) - (4 : Int) * (↑i : Int)]).length xc3)) rfl (fun _ => by kernel_rfl) ?_)
          refine Xg.ops_op (by kernel_rfl) (Xg.opx_bs (elem := 24) 1 [Value.slice (G.getD i default).fst (G.getD i default).snd.length (G.getD i default).snd.length, Value.slice xa1 ((G.getD i default).snd ++ [(-2 : Int) - (↑Ms.length : Int) - (4 : Int) * (↑i : Int)]).length xc1, Value.slice xa2 ((G.getD i default).snd ++ [(-2 : Int) - (↑Ms.length : Int) - (4 : Int) * (↑i : Int), (-2 : Int) - (↑Ms.length : Int) - (4 : Int) * (↑i : Int)]).length xc2, Value.slice xa3 ((G.getD i default).snd ++ [(-2 : Int) - (↑Ms.length : Int) - (4 : Int) * (↑i : Int), (-2 : Int) - (↑Ms.length : Int) - (4 : Int) * (↑i : Int), (-2 : Int) - (↑Ms.length : Int) - (4 : Int) * (↑i : Int)]).length xc3] [Value.slice (G.getD i default).fst (G.getD i default).snd.length (G.getD i default).snd.length, Value.slice xa1 ((G.getD i default).snd ++ [(-2 : Int) - (↑Ms.length : Int) - (4 : Int) * (↑i : Int)]).length xc1, Value.slice xa2 ((G.getD i default).snd ++ [(-2 : Int) - (↑Ms.length : Int) - (4 : Int) * (↑i : Int), (-2 : Int) - (↑Ms.length : Int) - (4 : Int) * (↑i : Int)]).length xc2, Value.slice xa3 ((G.getD i default).snd ++ [(-2 : Int) - (↑Ms.length : Int) - (4 : Int) * (↑i : Int), (-2 : Int) - (↑Ms.length : Int) - (4 : Int) * (↑i : Int), (-2 : Int) - (↑Ms.length : Int) - (4 : Int) * (↑i : Int)]).length xc3] (by kernel_rfl) (by kernel_rfl) (by decide) rfl (by kernel_rfl) (by kernel_rfl) (by kernel_rfl) (by kernel_rfl) fun xb4 => ?_)
          refine Xg.ops_op (by kernel_rfl) (Xg.opx_append_recsN (elem := 24) (yv := (Value.slice (some (Addr.mk xb4 (0 : Nat) none)) (4 : Nat) (4 : Nat))) (l := (((i, (ya, yc, Y), na, nc, N), J4).fst.snd.fst.snd.snd)) 11 1 32 4 [((G.getD i default).fst, (G.getD i default).snd.length, (G.getD i default).snd), (xa1, xc1, (G.getD i default).snd ++ [(-2 : Int) - (↑Ms.length : Int) - (4 : Int) * (↑i : Int)]), (xa2, xc2, (G.getD i default).snd ++ [(-2 : Int) - (↑Ms.length : Int) - (4 : Int) * (↑i : Int), (-2 : Int) - (↑Ms.length : Int) - (4 : Int) * (↑i : Int)]), (xa3, xc3, (G.getD i default).snd ++ [(-2 : Int) - (↑Ms.length : Int) - (4 : Int) * (↑i : Int), (-2 : Int) - (↑Ms.length : Int) - (4 : Int) * (↑i : Int), (-2 : Int) - (↑Ms.length : Int) - (4 : Int) * (↑i : Int)])] rfl (by kernel_rfl) (by kernel_rfl) (by kernel_rfl) (by kernel_rfl) rfl (fun _ hS => Xg.row_rd hS 0 rfl (by kernel_rfl)) (by kernel_rfl) (by first | omega | (simp only [List.length_nil]; omega) | (simp; done) | (simp; omega)) (by first | omega | (simp only [List.length_nil]; omega) | (simp; done) | (simp; omega)) fun xa4 xc4 => ?_)
          have xl4 : (((((i, (ya, yc, Y), na, nc, N), J4).fst.snd.fst.snd.snd) : (List (Option Addr × Nat × List Int))) ++ ([((G.getD i default).fst, (G.getD i default).snd.length, (G.getD i default).snd), (xa1, xc1, (G.getD i default).snd ++ [(-2 : Int) - (↑Ms.length : Int) - (4 : Int) * (↑i : Int)]), (xa2, xc2, (G.getD i default).snd ++ [(-2 : Int) - (↑Ms.length : Int) - (4 : Int) * (↑i : Int), (-2 : Int) - (↑Ms.length : Int) - (4 : Int) * (↑i : Int)]), (xa3, xc3, (G.getD i default).snd ++ [(-2 : Int) - (↑Ms.length : Int) - (4 : Int) * (↑i : Int), (-2 : Int) - (↑Ms.length : Int) - (4 : Int) * (↑i : Int), (-2 : Int) - (↑Ms.length : Int) - (4 : Int) * (↑i : Int)])] : (List (Option Addr × Nat × List Int)))).length = ((((i, (ya, yc, Y), na, nc, N), J4).fst.snd.fst.snd.snd) : (List (Option Addr × Nat × List Int))).length + 4 := by simp
          refine Xg.ops_op (by kernel_rfl) (Xg.opx_pure ((pv wb 0)) rfl (fun _ => by kernel_rfl) ?_)
          refine Xg.ops_op (by kernel_rfl) (Xg.opx_pure ((pv wb 3)) rfl (fun _ => by kernel_rfl) ?_)
          refine Xg.ops_op (by kernel_rfl) (Xg.opx_store1 (off := 3) 9 (Value.slice xa4 (Y ++ [((G.getD i default).fst, (G.getD i default).snd.length, (G.getD i default).snd), (xa1, xc1, (G.getD i default).snd ++ [(-2 : Int) - (↑Ms.length : Int) - (4 : Int) * (↑i : Int)]), (xa2, xc2, (G.getD i default).snd ++ [(-2 : Int) - (↑Ms.length : Int) - (4 : Int) * (↑i : Int), (-2 : Int) - (↑Ms.length : Int) - (4 : Int) * (↑i : Int)]), (xa3, xc3, (G.getD i default).snd ++ [(-2 : Int) - (↑Ms.length : Int) - (4 : Int) * (↑i : Int), (-2 : Int) - (↑Ms.length : Int) - (4 : Int) * (↑i : Int), (-2 : Int) - (↑Ms.length : Int) - (4 : Int) * (↑i : Int)])]).length xc4) (by kernel_rfl) rfl (by kernel_rfl) (by kernel_rfl) (by kernel_rfl) (Nat.le_of_ble_eq_true (by kernel_rfl)) ?_)
          refine Xg.ops_nil ?_
          refine Xg.at_region ?_
          refine Xg.ops_op (by kernel_rfl) (Xg.opx_pure ((pv wb 0)) rfl (fun _ => by kernel_rfl) ?_)
          refine Xg.ops_op (by kernel_rfl) (Xg.opx_pure ((pv wb 0)) rfl (fun _ => by kernel_rfl) ?_)
          refine Xg.ops_op (by kernel_rfl) (Xg.opx_pure ((pv wb 0)) rfl (fun _ => by kernel_rfl) ?_)
          refine Xg.ops_op (by kernel_rfl) (Xg.opx_pure ((pv wb 4)) rfl (fun _ => by kernel_rfl) ?_)
          refine Xg.ops_op (by kernel_rfl) (Xg.opx_load (b := wb) (off := ((4 : Nat))) 9 (Value.slice na N.length nc) rfl (by kernel_rfl) (by kernel_rfl) (by kernel_rfl) ?_)
          refine Xg.ops_op (by kernel_rfl) (Xg.opx_pure ((iv ((-2 : Int) - (↑Ms.length : Int) - (4 : Int) * (↑i : Int)))) rfl (fun _ => by kernel_rfl) ?_)
          refine Xg.ops_op (by kernel_rfl) (Xg.opx_pure ((iv ((-2 : Int) - (↑Ms.length : Int) - (4 : Int) * (↑i : Int)))) rfl (fun _ => by kernel_rfl) ?_)
          refine Xg.ops_op (by kernel_rfl) (Xg.opx_pure ((iv ((-2 : Int) - (↑Ms.length : Int) - (4 : Int) * (↑i : Int)))) rfl (fun _ => by kernel_rfl) ?_)
          refine Xg.ops_op (by kernel_rfl) (Xg.opx_pure ((iv ((-2 : Int) - (↑Ms.length : Int) - (4 : Int) * (↑i : Int)))) rfl (fun _ => by kernel_rfl) ?_)
          refine Xg.ops_op (by kernel_rfl) (Xg.opx_bs (elem := 3) 1 [iv ((-2 : Int) - (↑Ms.length : Int) - (4 : Int) * (↑i : Int)), iv ((-2 : Int) - (↑Ms.length : Int) - (4 : Int) * (↑i : Int)), iv ((-2 : Int) - (↑Ms.length : Int) - (4 : Int) * (↑i : Int)), iv ((-2 : Int) - (↑Ms.length : Int) - (4 : Int) * (↑i : Int))] [iv ((-2 : Int) - (↑Ms.length : Int) - (4 : Int) * (↑i : Int)), iv ((-2 : Int) - (↑Ms.length : Int) - (4 : Int) * (↑i : Int)), iv ((-2 : Int) - (↑Ms.length : Int) - (4 : Int) * (↑i : Int)), iv ((-2 : Int) - (↑Ms.length : Int) - (4 : Int) * (↑i : Int))] (by kernel_rfl) (by kernel_rfl) (by decide) rfl (by kernel_rfl) (by kernel_rfl) (by kernel_rfl) (by kernel_rfl) fun xb5 => ?_)
          refine Xg.ops_op (by kernel_rfl) (Xg.opx_append_ints (kd := .i64) (yv := (Value.slice (some (Addr.mk xb5 (0 : Nat) none)) (4 : Nat) (4 : Nat))) (m := ((4 : Nat))) (xs := (((i, (ya, yc, Y), na, nc, N), J4).fst.snd.snd.snd.snd)) (elem := 3) 14 8 [(-2 : Int) - (↑Ms.length : Int) - (4 : Int) * (↑i : Int), (-2 : Int) - (↑Ms.length : Int) - (4 : Int) * (↑i : Int), (-2 : Int) - (↑Ms.length : Int) - (4 : Int) * (↑i : Int), (-2 : Int) - (↑Ms.length : Int) - (4 : Int) * (↑i : Int)] rfl (by kernel_rfl) (by kernel_rfl) (by kernel_rfl) (by kernel_rfl) (by first | rfl | assumption | omega | (simp; done) | (simp; omega)) (fun _ hS => Xg.row_rd hS 0 rfl (by kernel_rfl)) (by first | omega | (simp only [List.length_nil, List.length_cons]; omega) | (simp; omega)) (by first | omega | (simp only [List.length_nil, List.length_cons]; omega) | (simp; omega)) fun xa5 xc5 => ?_)
          have xl5 : ((((i, (ya, yc, Y), na, nc, N), J4).fst.snd.snd.snd.snd) ++ [(-2 : Int) - (↑Ms.length : Int) - (4 : Int) * (↑i : Int), (-2 : Int) - (↑Ms.length : Int) - (4 : Int) * (↑i : Int), (-2 : Int) - (↑Ms.length : Int) - (4 : Int) * (↑i : Int), (-2 : Int) - (↑Ms.length : Int) - (4 : Int) * (↑i : Int)] : List Int).length = ((((i, (ya, yc, Y), na, nc, N), J4).fst.snd.snd.snd.snd) : List Int).length + ((4 : Nat)) := by first | (simp; done) | (simp; omega)
          refine Xg.ops_op (by kernel_rfl) (Xg.opx_pure ((pv wb 0)) rfl (fun _ => by kernel_rfl) ?_)
          refine Xg.ops_op (by kernel_rfl) (Xg.opx_pure ((pv wb 4)) rfl (fun _ => by kernel_rfl) ?_)
          refine Xg.ops_op (by kernel_rfl) (Xg.opx_store1 (off := 4) 10 (Value.slice xa5 (N ++ [(-2 : Int) - (↑Ms.length : Int) - (4 : Int) * (↑i : Int), (-2 : Int) - (↑Ms.length : Int) - (4 : Int) * (↑i : Int), (-2 : Int) - (↑Ms.length : Int) - (4 : Int) * (↑i : Int), (-2 : Int) - (↑Ms.length : Int) - (4 : Int) * (↑i : Int)]).length xc5) (by kernel_rfl) rfl (by kernel_rfl) (by kernel_rfl) (by kernel_rfl) (Nat.le_of_ble_eq_true (by kernel_rfl)) ?_)
          refine Xg.ops_nil ?_
          refine Xg.at_inBlock ?_
          refine Xg.at_region ?_
          refine Xg.ops_op (by kernel_rfl) (Xg.opx_pure ((iv (↑i : Int))) rfl (fun _ => by kernel_rfl) ?_)
          refine Xg.ops_op (by kernel_rfl) (Xg.opx_int .i64 (IntKind.wrap .i64 (((↑i : Int) + (1 : Int)))) rfl (fun _ => by kernel_rfl) (Xg.wrap_i64_in (by omega)) ?_)
          refine Xg.ops_op (by kernel_rfl) (Xg.opx_pure ((iv ((↑i : Int) + (1 : Int)))) rfl (fun _ => by kernel_rfl) ?_)
          refine Xg.ops_nil ?_
          refine Xg.at_inLoop ?_)
        refine at_pick [8, 6, 4, 2, 13, 9, 10, 11, 12, 14] rfl (at_four (cs := ihP) (l := Y) (a := ((G.getD i default).1, (G.getD i default).2.length, (G.getD i default).2)) (b := (xa1, xc1, (G.getD i default).2 ++ [((-2 : Int) - (Ms.length : Nat) - (4 : Int) * (i : Nat))])) (c := (xa2, xc2, (G.getD i default).2 ++ [((-2 : Int) - (Ms.length : Nat) - (4 : Int) * (i : Nat)), ((-2 : Int) - (Ms.length : Nat) - (4 : Int) * (i : Nat))])) (d := (xa3, xc3, (G.getD i default).2 ++ [((-2 : Int) - (Ms.length : Nat) - (4 : Int) * (i : Nat)), ((-2 : Int) - (Ms.length : Nat) - (4 : Int) * (i : Nat)), ((-2 : Int) - (Ms.length : Nat) - (4 : Int) * (i : Nat))])) ?_)
        (focus
          refine Xg.at_keep [1, 2, 3, 4, 0, 5] (by kernel_rfl) ?_
          refine Xs.same ?_ (fun J9 => ih (((i + 1, (xa4, xc4, Y ++ [((G.getD i default).1, (G.getD i default).2.length, (G.getD i default).2), (xa1, xc1, (G.getD i default).2 ++ [((-2 : Int) - (Ms.length : Nat) - (4 : Int) * (i : Nat))]), (xa2, xc2, (G.getD i default).2 ++ [((-2 : Int) - (Ms.length : Nat) - (4 : Int) * (i : Nat)), ((-2 : Int) - (Ms.length : Nat) - (4 : Int) * (i : Nat))]), (xa3, xc3, (G.getD i default).2 ++ [((-2 : Int) - (Ms.length : Nat) - (4 : Int) * (i : Nat)), ((-2 : Int) - (Ms.length : Nat) - (4 : Int) * (i : Nat)), ((-2 : Int) - (Ms.length : Nat) - (4 : Int) * (i : Nat))])]), (xa5, xc5, N ++ [((-2 : Int) - (Ms.length : Nat) - (4 : Int) * (i : Nat)), ((-2 : Int) - (Ms.length : Nat) - (4 : Int) * (i : Nat)), ((-2 : Int) - (Ms.length : Nat) - (4 : Int) * (i : Nat)), ((-2 : Int) - (Ms.length : Nat) - (4 : Int) * (i : Nat))]))), J9) ?_ ?_) (by kernel_rfl))
        · rfl
        · refine ⟨hlt, hY.four (G.getD i default).2 ((-2 : Int) - (Ms.length : Nat) - (4 : Int) * (i : Nat)) c1 c2 _ _ _ _ _ _ _ _, ?_⟩
          show (Y ++ _).length = _
          rw [List.length_append, hYl]
          show Ls.length + 4 * i + 4 = _
          dsimp only; omega
        · dsimp only; omega
      · obtain rfl : i = G.length := by omega
        clear ih
        have hlk := looks_d wb v1 (.slice none 0 0) (.slice none 0 0) ya na yc nc Y N hY (by omega)
        (focus
          refine Xg.at_seq ?_
          refine Xg.at_seq ?_
          refine Xg.at_region ?_
          refine Xg.ops_op (by kernel_rfl) (Xg.opx_pure ((iv (↑G.length : Int))) rfl (fun _ => by kernel_rfl) ?_)
          refine Xg.ops_op (by kernel_rfl) (Xg.opx_pure ((pv wb 0)) rfl (fun _ => by kernel_rfl) ?_)
          refine Xg.ops_op (by kernel_rfl) (Xg.opx_pure ((pv wb 0)) rfl (fun _ => by kernel_rfl) ?_)
          refine Xg.ops_op (by kernel_rfl) (Xg.opx_pure ((pv wb 1)) rfl (fun _ => by kernel_rfl) ?_)
          refine Xg.ops_op (by kernel_rfl) (Xg.opx_load (b := wb) (off := ((1 : Nat))) 1 (Value.slice fa G.length fc) rfl (by kernel_rfl) (by kernel_rfl) (by kernel_rfl) ?_)
          refine Xg.ops_op (by kernel_rfl) (Xg.opx_pure ((iv (↑G.length : Int))) rfl (fun _ => by kernel_rfl) ?_)
          refine Xg.ops_op (by kernel_rfl) (Xg.opx_pure (.bool (decide ((((↑G.length : Int)) : Int) < ((↑G.length : Int))))) rfl (fun _ => by kernel_rfl) ?_)
          refine Xg.ops_nil ?_
          refine Xg.at_false (t := decide (((↑G.length : Int) < (↑G.length : Int)))) (by kernel_rfl) (decide_eq_false (by omega)) ?_
          refine Xg.at_exit rfl ?_
          refine Xg.at_seq ?_
          refine Xg.at_region ?_
          refine Xg.ops_op (by kernel_rfl) (Xg.opx_pure ((pv wb 0)) rfl (fun _ => by kernel_rfl) ?_)
          refine Xg.ops_op (by kernel_rfl) (Xg.opx_pure ((pv wb 0)) rfl (fun _ => by kernel_rfl) ?_)
          refine Xg.ops_op (by kernel_rfl) (Xg.opx_pure ((pv wb 1)) rfl (fun _ => by kernel_rfl) ?_)
          refine Xg.ops_op (by kernel_rfl) (Xg.opx_store1 (off := 1) 1 (Value.slice none (0 : Nat) (0 : Nat)) (by kernel_rfl) rfl (by kernel_rfl) (by kernel_rfl) (by kernel_rfl) (Nat.le_of_ble_eq_true (by kernel_rfl)) ?_)
          refine Xg.ops_nil ?_
          refine Xg.at_seq ?_
          refine Xg.at_region ?_
          refine Xg.ops_op (by kernel_rfl) (Xg.opx_pure ((pv wb 0)) rfl (fun _ => by kernel_rfl) ?_)
          refine Xg.ops_op (by kernel_rfl) (Xg.opx_pure ((pv wb 0)) rfl (fun _ => by kernel_rfl) ?_)
          refine Xg.ops_op (by kernel_rfl) (Xg.opx_pure ((pv wb 2)) rfl (fun _ => by kernel_rfl) ?_)
          refine Xg.ops_op (by kernel_rfl) (Xg.opx_store1 (off := 2) 1 (Value.slice none (0 : Nat) (0 : Nat)) (by kernel_rfl) rfl (by kernel_rfl) (by kernel_rfl) (by kernel_rfl) (Nat.le_of_ble_eq_true (by kernel_rfl)) ?_)
          refine Xg.ops_nil ?_
          refine Xg.at_seq ?_
          refine Xg.at_region ?_
          refine Xg.ops_op (by kernel_rfl) (Xg.opx_pure ((pv wb 0)) rfl (fun _ => by kernel_rfl) ?_)
          refine Xg.ops_op (by kernel_rfl) (Xg.opx_call1' [1, 3, 4, 5] [row wb (50 : TypeId) [v1, Value.slice none (0 : Nat) (0 : Nat), Value.slice none (0 : Nat) (0 : Nat), Value.slice ya Y.length yc, Value.slice na N.length nc], IH ya yc Y, starL ihP Y, SP na nc N, starL frP (List.drop G.length G), FH fa fc G] (fun _ => by kernel_rfl) (@hlk ) (by kernel_rfl) (by kernel_rfl) (by kernel_rfl) ?_)
          refine Xg.ops_op (by kernel_rfl) (Xg.opx_pure ((Value.bool true)) rfl (fun _ => by kernel_rfl) ?_)
          refine Xg.ops_nil ?_
          refine Xg.at_ret_ps (v := (Value.bool true)) [0, 1, 2, 3] [row wb (50 : TypeId) [v1, Value.slice none (0 : Nat) (0 : Nat), Value.slice none (0 : Nat) (0 : Nat), Value.slice ya Y.length yc, Value.slice na N.length nc], IH ya yc Y, starL ihP Y, SP na nc N] Go.Proofs.Try.func20 (fun _ => by kernel_rfl) (by kernel_rfl) (by kernel_rfl) ?_
          refine ⟨(((ya, yc, Y), na, nc, N)), ?_, by kernel_rfl, by kernel_rfl⟩)
        exact ⟨hY, by dsimp only; omega⟩
end Go.Proofs.Ytijjficnhpokdaa
