import Derived.Test.YtmplimmcjdkhlaaMPicked8
import Derived.Test.YtmplimmcjdkhlaaProg
/- The arena package: New, of one class of one buffer. -/
namespace Go.Proofs.Ytmplimmcjdkhlaa
open Go.Sl Go.Xg
set_option linter.unusedVariables false
set_option linter.unusedSimpArgs false
set_option linter.unnecessarySimpa false
set_option maxHeartbeats 4000000
set_option maxRecDepth 100000

end Go.Proofs.Ytmplimmcjdkhlaa

/- The arena package: New, of one class of one buffer; what a Pool is. -/
namespace Go.Proofs.Ytmplimmcjdkhlaa
open Go.Sl Go.Xg
set_option linter.unusedVariables false
set_option linter.unusedSimpArgs false
set_option linter.unnecessarySimpa false
set_option maxHeartbeats 4000000
set_option maxRecDepth 100000

abbrev fnO : Value := .func (.func 34) #[] #[]
section
variable {P : Program} {g : World} {F : List HP} {T : List Value} {L : List HP} {K : List Value → List HP → Prop}
/-- make of things of one cell: a row of zeros. -/
theorem opx_make_row {d : Nat} {t ty elem : TypeId} {x y : Operand} {pos : String} {after : Array Edge} {gd : Option (Nat × Bool)} {k1 k2 : IntKind} (n by_ : Nat) (z : Value)
    (hu : slTy P t elem = true) (hE : El P elem z 1 by_) (hz : z.cells = #[z]) (hx : ev T x = .int k1 (n : Nat)) (hy : ev T y = .int k2 (n : Nat)) (hb : by_ * n ≤ 281474976710656) (h63 : n ≤ maxLen)
    (h : ∀ b, K (T.set d (.slice (some ⟨b, 0, none⟩) n n)) (row b elem (List.replicate n z) :: L)) :
    OpX P g F { dst := some d, op := .makeSlice t x y, type := ty, pos, after, guard := gd } T L K := by
  constructor
  intro w hS
  obtain ⟨b, w', hr, h'⟩ := hS.make t elem z 1 by_ (slTy_u hu) hE k1 k2 (n : Int) (n : Int) (by omega) (by omega) (by omega) (by omega)
  rw [Int.toNat_natCast] at hr h'
  have e : (madeCells z.cells (n * 1)).toList = List.replicate n z := by
    rw [hz]
    apply List.ext_getElem
    · simp [madeCells]
    · intro i h1 h2
      simp [madeCells, Nat.mod_one]
  rw [e] at h'
  exact op_value (exec_make _ (by rw [act_eval, act_eval, hx, hy]; exact hr)) ⟨_, row b elem (List.replicate n z) :: L, by rw [act_put]; rfl, h', h b⟩
end

def upd {α : Type} (f : Nat → α) (i : Nat) (v : α) : Nat → α := fun j => if j = i then v else f j
def ptrO : Option Nat → Value
  | none => .pointer none
  | some b => .pointer (some ⟨b, 0, none⟩)
/-- Cells by their places. -/
def arr0 (n : Nat) (f : Nat → Value) : List Value := (List.range n).map f
noncomputable def arr : Nat → (Nat → Value) → List Value := Classical.choose (⟨arr0, rfl⟩ : ∃ f : Nat → (Nat → Value) → List Value, f = arr0)
theorem arr_eq : arr = arr0 := Classical.choose_spec (⟨arr0, rfl⟩ : ∃ f : Nat → (Nat → Value) → List Value, f = arr0)
theorem arr_get (n : Nat) (f : Nat → Value) (i : Nat) (h : i < n) : Gets (arr n f) i (f i) := by rw [arr_eq]; unfold Gets arr0; simp [h]
theorem arr_set (n : Nat) (f : Nat → Value) (i : Nat) (v : Value) (h : i < n) : Sets (arr n f) i v (arr n (upd f i v)) := by
  rw [arr_eq]
  refine ⟨by simp [arr0, h], ?_⟩
  apply List.ext_getElem (by simp [arr0])
  intro j h1 h2
  simp only [arr0, List.getElem_set, List.getElem_map, List.getElem_range, upd]
  by_cases e : i = j
  · rw [if_pos e, if_pos e.symm]
  · rw [if_neg e, if_neg (fun h => e h.symm)]
theorem arr_rep (n : Nat) (z : Value) : List.replicate n z = arr n fun _ => z := by
  rw [arr_eq]
  apply List.ext_getElem (by simp [arr0])
  intro i h1 h2
  simp [arr0]
noncomputable abbrev pcs (n : Nat) (f : Nat → Option Nat) : List Value := arr n fun i => ptrO (f i)
noncomputable abbrev bcs (n : Nat) (f : Nat → Bool) : List Value := arr n fun i => .bool (f i)
theorem upd_map {α β : Type} (f : Nat → α) (i : Nat) (v : α) (F : α → β) : upd (fun j => F (f j)) i (F v) = fun j => F (upd f i v j) := by
  funext j; unfold upd; split <;> rfl
theorem g_none (n : Nat) (f : Nat → Option Nat) (i : Nat) (h : i < n) (hf : f i = none) : Gets (pcs n f) i (.pointer none) := by
  have := arr_get n (fun i => ptrO (f i)) i h
  rw [hf] at this; exact this
theorem g_some (n : Nat) (f : Nat → Option Nat) (i b : Nat) (h : i < n) (hf : f i = some b) : Gets (pcs n f) i (.pointer (some ⟨b, 0, none⟩)) := by
  have := arr_get n (fun i => ptrO (f i)) i h
  rw [hf] at this; exact this
theorem s_none (n : Nat) (f : Nat → Option Nat) (i : Nat) (h : i < n) : Sets (pcs n f) i (.pointer none) (pcs n (upd f i none)) := by
  have := arr_set n (fun i => ptrO (f i)) i (ptrO none) h; rwa [upd_map] at this
theorem s_some (n : Nat) (f : Nat → Option Nat) (i b : Nat) (h : i < n) : Sets (pcs n f) i (.pointer (some ⟨b, 0, none⟩)) (pcs n (upd f i (some b))) := by
  have := arr_set n (fun i => ptrO (f i)) i (ptrO (some b)) h; rwa [upd_map] at this
/-- The arenas that are open: nothing was taken. -/
abbrev AreP (b : Nat) : HP := row b 105 [.int .i64 5, .int .i64 0, .slice none 0 0]
def AllP (bs : List Nat) : HP := seps (bs.map AreP)
def PoolP (p n : Nat) (f : Nat → Option Nat) : HP := fun m => ∃ (ab : Nat) (cv bv : Value), seps [row p 94 [cv, bv, .slice (some ⟨ab, 0, none⟩) n n], row ab 102 (pcs n f), AllP ((List.range n).filterMap f)] m

end Go.Proofs.Ytmplimmcjdkhlaa

/- The arena package: New, Open, Close. -/
namespace Go.Proofs.Ytmplimmcjdkhlaa
open Go.Sl Go.Xg
set_option linter.unusedVariables false
set_option linter.unusedSimpArgs false
set_option linter.unnecessarySimpa false
set_option maxHeartbeats 4000000
set_option maxRecDepth 100000


abbrev bufC (x : Int) : List Value := [.int .i64 x, .slice none 0 0]
abbrev claC (x : Option Addr × Nat) : List Value := [.int .i64 1, .slice x.1 1 x.2, fnO]
theorem at_nil_recs {P : Program} {f : FuncId} {g : World} {F : List HP} {R : Ending → World → Prop} {k : List Item} {T : List Value} {L : List HP} {α : Type} (E sz : Nat) (cells : α → List Value) (h : At P f g F R k T (recsO E sz cells none 0 ([] : List α) :: L)) : At P f g F R k T L := at_nil_own E sz h
/-- slices.Index of nil. -/
theorem index_nil (ab n : Nat) (f : Nat → Option Nat) (i : Nat) (hn : n ≤ 64) (hi : i < n) (hno : f i = none) (hb : ∀ j, j < i → ∃ b, f j = some b) : Does Try.prog 38 [.slice (some ⟨ab, 0, none⟩) n n, .pointer none] [row ab 102 (pcs n f)]
    (Ret (.int .i64 (i : Nat)) [row ab 102 (pcs n f)]) := by
  (focus
    refine Xg.spec_of Go.Proofs.Try.func38 rfl Go.Proofs.Try.ntmps38 fun g F => ?_)
  (focus
    refine Xg.at_seq ?_
    refine Xg.at_region ?_
    refine Xg.ops_op (by kernel_rfl) (Xg.opx_pure ((iv 0)) rfl (fun _ => by kernel_rfl) ?_)
    refine Xg.ops_nil ?_
    refine Xg.at_seq ?_
    refine Xg.at_seq ?_
    refine Xg.at_region ?_
    refine Xg.ops_op (by kernel_rfl) (Xg.opx_pure ((Value.slice (some (Addr.mk ab (0 : Nat) none)) n n)) rfl (fun _ => by kernel_rfl) ?_)
    refine Xg.ops_op (by kernel_rfl) (Xg.opx_pure ((iv (↑n : Int))) rfl (fun _ => by kernel_rfl) ?_)
    refine Xg.ops_op (by kernel_rfl) (Xg.opx_pure ((iv 0)) rfl (fun _ => by kernel_rfl) ?_)
    refine Xg.ops_nil ?_
    refine Xg.at_block ?_)
  (focus
    refine Xg.at_rounds_inv (α := (Nat) × (Nat → Value)) (fun x => ((fun k => k ≤ i) : (Nat) → Prop) x.1) (fun x => ((fun k => i - k) : (Nat) → Nat) x.1) (fun x => Xg.headT [Value.slice (some (Addr.mk ab (0 : Nat) none)) n n, Value.pointer none, tu, tu, iv 0, tu, Value.slice (some (Addr.mk ab (0 : Nat) none)) n n, iv (↑n : Int), iv 0, tu, tu, tu, tu, tu, tu, tu, tu, tu, tu] [4, 5, 9, 10, 11, 12, 13, 14, 15, 16, 17, 18] (((fun k => [(8, .int .i64 (k : Nat))]) : (Nat) → List (Nat × Go.Value)) x.1) x.2) (fun x => ((fun k => [row ab 102 (pcs n f)]) : (Nat) → List Go.Sl.HP) x.1) ((0), fun j9 => ([Value.slice (some (Addr.mk ab (0 : Nat) none)) n n, Value.pointer none, tu, tu, iv 0, tu, Value.slice (some (Addr.mk ab (0 : Nat) none)) n n, iv (↑n : Int), iv 0, tu, tu, tu, tu, tu, tu, tu, tu, tu, tu] : List Value).getD j9 undef) (by kernel_rfl) (by kernel_rfl) ?_ ?_)
  · exact Nat.zero_le _
  rintro ⟨k, J⟩ hk ih
  dsimp only at hk
  (focus
    refine Xg.At.same (T' := [Value.slice (some (Addr.mk ab (0 : Nat) none)) n n, Value.pointer none, tu, tu, J 4, J 5, Value.slice (some (Addr.mk ab (0 : Nat) none)) n n, iv (↑n : Int), iv (↑k : Int), J 9, J 10, J 11, J 12, J 13, J 14, J 15, J 16, J 17, J 18]) (L' := [row ab (102 : TypeId) (pcs n f)]) (by kernel_rfl) rfl ?_)
  by_cases hlt : k < i
  · obtain ⟨b, hfb⟩ := hb k hlt
    have hg := g_some n f k b (by omega) hfb
    (focus
      refine Xg.at_seq ?_
      refine Xg.at_region ?_
      refine Xg.ops_op (by kernel_rfl) (Xg.opx_pure (.bool (decide ((((↑k : Int)) : Int) < ((↑n : Int))))) rfl (fun _ => by kernel_rfl) ?_)
      refine Xg.ops_nil ?_
      refine Xg.at_seq ?_
      refine Xg.at_true (t := decide (((↑k : Int) < (↑n : Int)))) (by kernel_rfl) (decide_eq_true (by omega)) ?_
      refine Xg.at_skip ?_
      refine Xg.at_seq ?_
      refine Xg.at_block ?_
      refine Xg.at_seq ?_
      refine Xg.at_region ?_
      refine Xg.ops_op (by kernel_rfl) (Xg.opx_pure ((iv (↑k : Int))) rfl (fun _ => by kernel_rfl) ?_)
      refine Xg.ops_op (by kernel_rfl) (Xg.opx_pure ((iv (↑k : Int))) rfl (fun _ => by kernel_rfl) ?_)
      refine Xg.ops_nil ?_
      refine Xg.at_seq ?_
      refine Xg.at_region ?_
      refine Xg.ops_op (by kernel_rfl) (Xg.opx_pure ((Value.pointer none)) rfl (fun _ => by kernel_rfl) ?_)
      refine Xg.ops_op (by kernel_rfl) (Xg.opx_pure ((Value.slice (some (Addr.mk ab (0 : Nat) none)) n n)) rfl (fun _ => by kernel_rfl) ?_)
      refine Xg.ops_op (by kernel_rfl) (Xg.opx_pure ((iv (↑k : Int))) rfl (fun _ => by kernel_rfl) ?_)
      refine Xg.ops_op (by kernel_rfl) (Xg.opx_run (.pointer (some (Addr.mk ab k none))) rfl (Xg.run_ix_slice' (elem := 102) (b := ab) (off := ((0 : Nat))) (len := n) (cap := n) (kd := .i64) (e := ((↑k : Int))) 1 k k (by kernel_rfl) (by kernel_rfl) (by kernel_rfl) (by kernel_rfl) rfl (by omega) (by omega)) ?_)
      refine Xg.ops_op (by kernel_rfl) (Xg.opx_load (b := ab) (off := k) 0 (pv b 0) rfl (by kernel_rfl) (@hg ) (by kernel_rfl) ?_)
      refine Xg.ops_op (by kernel_rfl) (Xg.opx_pure ((Value.bool (some (Addr.mk b (0 : Nat) none)).isNone)) rfl (fun _ => by kernel_rfl) ?_)
      refine Xg.ops_nil ?_
      refine Xg.at_false (t := false) (by kernel_rfl) rfl ?_
      refine Xg.at_skip ?_
      refine Xg.at_inBlock ?_
      refine Xg.at_region ?_
      refine Xg.ops_op (by kernel_rfl) (Xg.opx_int .i64 (IntKind.wrap .i64 (((↑k : Int) + (1 : Int)))) rfl (fun _ => by kernel_rfl) (Xg.wrap_i64_in (by omega)) ?_)
      refine Xg.ops_op (by kernel_rfl) (Xg.opx_pure ((iv ((↑k : Int) + (1 : Int)))) rfl (fun _ => by kernel_rfl) ?_)
      refine Xg.ops_nil ?_
      refine Xg.at_inLoop ?_)
    (focus
      refine Xg.at_keep [0] (by kernel_rfl) ?_
      refine Xs.same ?_ (fun J9 => ih (((k + 1)), J9) ?_ ?_) (by kernel_rfl))
    · rfl
    · dsimp only; omega
    · dsimp only; omega
  · obtain rfl : k = i := by omega
    clear ih
    have hg := g_none n f k (by omega) hno
    (focus
      refine Xg.at_seq ?_
      refine Xg.at_region ?_
      refine Xg.ops_op (by kernel_rfl) (Xg.opx_pure (.bool (decide ((((↑k : Int)) : Int) < ((↑n : Int))))) rfl (fun _ => by kernel_rfl) ?_)
      refine Xg.ops_nil ?_
      refine Xg.at_seq ?_
      refine Xg.at_true (t := decide (((↑k : Int) < (↑n : Int)))) (by kernel_rfl) (decide_eq_true (by omega)) ?_
      refine Xg.at_skip ?_
      refine Xg.at_seq ?_
      refine Xg.at_block ?_
      refine Xg.at_seq ?_
      refine Xg.at_region ?_
      refine Xg.ops_op (by kernel_rfl) (Xg.opx_pure ((iv (↑k : Int))) rfl (fun _ => by kernel_rfl) ?_)
      refine Xg.ops_op (by kernel_rfl) (Xg.opx_pure ((iv (↑k : Int))) rfl (fun _ => by kernel_rfl) ?_)
      refine Xg.ops_nil ?_
      refine Xg.at_seq ?_
      refine Xg.at_region ?_
      refine Xg.ops_op (by kernel_rfl) (Xg.opx_pure ((Value.pointer none)) rfl (fun _ => by kernel_rfl) ?_)
      refine Xg.ops_op (by kernel_rfl) (Xg.opx_pure ((Value.slice (some (Addr.mk ab (0 : Nat) none)) n n)) rfl (fun _ => by kernel_rfl) ?_)
      refine Xg.ops_op (by kernel_rfl) (Xg.opx_pure ((iv (↑k : Int))) rfl (fun _ => by kernel_rfl) ?_)
      refine Xg.ops_op (by kernel_rfl) (Xg.opx_run (.pointer (some (Addr.mk ab k none))) rfl (Xg.run_ix_slice' (elem := 102) (b := ab) (off := ((0 : Nat))) (len := n) (cap := n) (kd := .i64) (e := ((↑k : Int))) 1 k k (by kernel_rfl) (by kernel_rfl) (by kernel_rfl) (by kernel_rfl) rfl (by omega) (by omega)) ?_)
      refine Xg.ops_op (by kernel_rfl) (Xg.opx_load (b := ab) (off := k) 0 (Value.pointer none) rfl (by kernel_rfl) (@hg ) (by kernel_rfl) ?_)
      refine Xg.ops_op (by kernel_rfl) (Xg.opx_pure ((Value.bool true)) rfl (fun _ => by kernel_rfl) ?_)
      refine Xg.ops_nil ?_
      refine Xg.at_true (t := true) (by kernel_rfl) rfl ?_
      refine Xg.at_seq ?_
      refine Xg.at_region ?_
      refine Xg.ops_op (by kernel_rfl) (Xg.opx_pure ((iv (↑k : Int))) rfl (fun _ => by kernel_rfl) ?_)
      refine Xg.ops_op (by kernel_rfl) (Xg.opx_pure ((iv (↑k : Int))) rfl (fun _ => by kernel_rfl) ?_)
      refine Xg.ops_nil ?_
      refine Xg.at_ret_ps (v := (iv (↑k : Int))) [0] [row ab (102 : TypeId) (pcs n f)] Go.Proofs.Try.func38 (fun _ => by kernel_rfl) (by kernel_rfl) (by kernel_rfl) ?_
      exact ⟨by kernel_rfl, by kernel_rfl⟩)
/-- What is done with a Pool by its rows. -/
abbrev HdP (p ab n : Nat) (cv bv : Value) : HP := row p 94 [cv, bv, .slice (some ⟨ab, 0, none⟩) n n]
abbrev PtP (ab n : Nat) (f : Nat → Option Nat) : HP := row ab 102 (pcs n f)
end Go.Proofs.Ytmplimmcjdkhlaa

/- The arena package: Open, Close, over a Pool. -/
namespace Go.Proofs.Ytmplimmcjdkhlaa
open Go.Sl Go.Xg
set_option linter.unusedVariables false
set_option linter.unusedSimpArgs false
set_option linter.unnecessarySimpa false
set_option maxHeartbeats 4000000
set_option maxRecDepth 100000


theorem of_some (p ab n k b : Nat) (cv bv : Value) (u : Nat → Option Nat) (hk : k < n) (hn : n ≤ 64) (hu : u k = some b) : Does Try.prog 36 [.pointer (some ⟨p, 0, none⟩), .int .i64 (k : Nat)] [HdP p ab n cv bv, PtP ab n u] (Ret (.pointer (some ⟨b, 0, none⟩)) [HdP p ab n cv bv, PtP ab n u]) := by
  have hg := g_some n u k b hk hu
  (focus
    refine Xg.spec_of Go.Proofs.Try.func36 rfl Go.Proofs.Try.ntmps36 fun g F => ?_)
  (focus
    refine Xg.at_seq ?_
    refine Xg.at_region ?_
    refine Xg.ops_op (by kernel_rfl) (Xg.opx_pure ((Value.pointer none)) rfl (fun _ => by kernel_rfl) ?_)
    refine Xg.ops_nil ?_
    refine Xg.at_seq ?_
    refine Xg.at_seq ?_
    refine Xg.at_region ?_
    refine Xg.ops_op (by kernel_rfl) (Xg.opx_pure ((iv (↑k : Int))) rfl (fun _ => by kernel_rfl) ?_)
    refine Xg.ops_op (by kernel_rfl) (Xg.opx_pure (.bool (decide ((((↑k : Int)) : Int) < ((0 : Int))))) rfl (fun _ => by kernel_rfl) ?_)
    refine Xg.ops_op (by kernel_rfl) (Xg.opx_pure ((Value.bool (decide ((↑k : Int) < (0 : Int))))) rfl (fun _ => by kernel_rfl) ?_)
    refine Xg.ops_op (by kernel_rfl) (Xg.opx_pure ((iv (↑k : Int))) rfl (fun _ => by kernel_rfl) ?_)
    refine Xg.ops_op (by kernel_rfl) (Xg.opx_pure ((pv p 0)) rfl (fun _ => by kernel_rfl) ?_)
    refine Xg.ops_op (by kernel_rfl) (Xg.opx_pure ((pv p 0)) rfl (fun _ => by kernel_rfl) ?_)
    refine Xg.ops_op (by kernel_rfl) (Xg.opx_pure ((pv p 2)) rfl (fun _ => by kernel_rfl) ?_)
    refine Xg.ops_op (by kernel_rfl) (Xg.opx_load (b := p) (off := ((2 : Nat))) 0 (Value.slice (some (Addr.mk ab (0 : Nat) none)) n n) rfl (by kernel_rfl) (by kernel_rfl) (by kernel_rfl) ?_)
    refine Xg.ops_op (by kernel_rfl) (Xg.opx_pure ((iv (↑n : Int))) rfl (fun _ => by kernel_rfl) ?_)
    refine Xg.ops_op (by kernel_rfl) (Xg.opx_pure (.bool (decide ((((↑k : Int)) : Int) ≥ ((↑n : Int))))) rfl (fun _ => by kernel_rfl) ?_)
    refine Xg.ops_flag (j := 7) (c := (decide ((↑k : Int) < (0 : Int)))) (by kernel_rfl) (fun xh1 => absurd (of_decide_eq_true xh1) (by omega)) (fun _ => ?_)
    refine Xg.ops_flag (j := 14) (c := (decide ((↑k : Int) ≥ (↑n : Int)))) (by kernel_rfl) (fun xh1 => absurd (of_decide_eq_true xh1) (by omega)) (fun _ => ?_)
    refine Xg.ops_op (by kernel_rfl) (Xg.opx_pure ((Value.bool false)) rfl (fun _ => by kernel_rfl) ?_)
    refine Xg.ops_nil ?_
    refine Xg.at_false (t := false) (by kernel_rfl) rfl ?_
    refine Xg.at_skip ?_
    refine Xg.at_seq ?_
    refine Xg.at_region ?_
    refine Xg.ops_op (by kernel_rfl) (Xg.opx_pure ((pv p 0)) rfl (fun _ => by kernel_rfl) ?_)
    refine Xg.ops_op (by kernel_rfl) (Xg.opx_pure ((pv p 0)) rfl (fun _ => by kernel_rfl) ?_)
    refine Xg.ops_op (by kernel_rfl) (Xg.opx_pure ((pv p 2)) rfl (fun _ => by kernel_rfl) ?_)
    refine Xg.ops_op (by kernel_rfl) (Xg.opx_load (b := p) (off := ((2 : Nat))) 0 (Value.slice (some (Addr.mk ab (0 : Nat) none)) n n) rfl (by kernel_rfl) (by kernel_rfl) (by kernel_rfl) ?_)
    refine Xg.ops_op (by kernel_rfl) (Xg.opx_pure ((iv (↑k : Int))) rfl (fun _ => by kernel_rfl) ?_)
    refine Xg.ops_op (by kernel_rfl) (Xg.opx_run (.pointer (some (Addr.mk ab k none))) rfl (Xg.run_ix_slice' (elem := 102) (b := ab) (off := ((0 : Nat))) (len := n) (cap := n) (kd := .i64) (e := ((↑k : Int))) 1 k k (by kernel_rfl) (by kernel_rfl) (by kernel_rfl) (by kernel_rfl) rfl (by omega) (by omega)) ?_)
    refine Xg.ops_op (by kernel_rfl) (Xg.opx_load (b := ab) (off := k) 1 (pv b 0) rfl (by kernel_rfl) (@hg ) (by kernel_rfl) ?_)
    refine Xg.ops_op (by kernel_rfl) (Xg.opx_pure ((pv b 0)) rfl (fun _ => by kernel_rfl) ?_)
    refine Xg.ops_nil ?_
    refine Xg.at_ret_ps (v := (pv b 0)) [0, 1] [HdP p ab n cv bv, PtP ab n u] Go.Proofs.Try.func36 (fun _ => by kernel_rfl) (by kernel_rfl) (by kernel_rfl) ?_
    exact ⟨by kernel_rfl, by kernel_rfl⟩)
end Go.Proofs.Ytmplimmcjdkhlaa
