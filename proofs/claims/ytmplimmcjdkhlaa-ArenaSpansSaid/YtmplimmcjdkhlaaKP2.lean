/- The arena package: New, of one class of one buffer; what a Pool is. -/
import Derived.Test.YtmplimmcjdkhlaaKP1
import Derived.Test.YtmplimmcjdkhlaaKS
namespace Go.Proofs.Ytmplimmcjdkhlaa
open Go.Sl Go.Xg
set_option linter.unusedVariables false
set_option linter.unusedSimpArgs false
set_option linter.unnecessarySimpa false
set_option maxHeartbeats 4000000
set_option maxRecDepth 100000

abbrev fnO : Value := .func (.func 34) #[] #[]
theorem put_d (b : Nat) (s : Int) : Does Try.prog 35 [.pointer (some ⟨b, 1, none⟩), .int .i64 0] [row b 98 [.int .i64 s, .slice none 0 0, fnO]]
    (RetE (fun x : Option Addr × Nat => True) (fun x => .tuple #[]) (fun x => [row b 98 [.int .i64 s, .slice x.1 1 x.2, fnO], ints 3 .i64 x.1 x.2 [0]])) := by
  have h1 := bs_d fnO 0
  (focus
    refine Xg.spec_of Go.Proofs.Try.func35 rfl Go.Proofs.Try.ntmps35 fun g F => ?_)
  (focus
    refine Xg.at_seq ?_
    refine Xg.at_draw [9] [(3, [0, 1, 2, 3, 4, 5, 6, 7, 8], Xg.CellIs (b) (((1 : Nat))) ((Value.slice none (0 : Nat) (0 : Nat)))), (8, [0, 1, 2, 3, 4, 5, 6, 7, 8], Xg.CellIs (b) (((2 : Nat))) ((Value.func (Fn.func (34 : Nat)) #[] #[])))] (by kernel_rfl) ?_
    refine Xg.any_pure ((pv b 1)) 0 (by kernel_rfl) rfl (by kernel_rfl) (by kernel_rfl) (by kernel_rfl) (by kernel_rfl) rfl (fun _ => by kernel_rfl) ?_
    refine Xg.any_pure ((pv b 1)) 1 (by kernel_rfl) rfl (by kernel_rfl) (by kernel_rfl) (by kernel_rfl) (by kernel_rfl) rfl (fun _ => by kernel_rfl) ?_
    refine Xg.any_pure ((pv b 1)) 2 (by kernel_rfl) rfl (by kernel_rfl) (by kernel_rfl) (by kernel_rfl) (by kernel_rfl) rfl (fun _ => by kernel_rfl) ?_
    refine Xg.any_reads (Value.slice none (0 : Nat) (0 : Nat)) 3 0 (by kernel_rfl) rfl (by kernel_rfl) (by kernel_rfl) (by kernel_rfl) (by kernel_rfl) rfl rfl (by kernel_rfl) (Xg.cell_now (b := b) (off := ((1 : Nat))) 0 rfl (by kernel_rfl)) (fun _ h => Xg.run_load (by kernel_rfl) (by kernel_rfl) h) ?_
    refine Xg.any_pure ((iv 0)) 4 (by kernel_rfl) rfl (by kernel_rfl) (by kernel_rfl) (by kernel_rfl) (by kernel_rfl) rfl (fun _ => by kernel_rfl) ?_
    refine Xg.any_pure ((pv b 1)) 5 (by kernel_rfl) rfl (by kernel_rfl) (by kernel_rfl) (by kernel_rfl) (by kernel_rfl) rfl (fun _ => by kernel_rfl) ?_
    refine Xg.any_pure ((pv b 1)) 6 (by kernel_rfl) rfl (by kernel_rfl) (by kernel_rfl) (by kernel_rfl) (by kernel_rfl) rfl (fun _ => by kernel_rfl) ?_
    refine Xg.any_pure ((pv b 2)) 7 (by kernel_rfl) rfl (by kernel_rfl) (by kernel_rfl) (by kernel_rfl) (by kernel_rfl) rfl (fun _ => by kernel_rfl) ?_
    refine Xg.any_reads (Value.func (Fn.func (34 : Nat)) #[] #[]) 8 1 (by kernel_rfl) rfl (by kernel_rfl) (by kernel_rfl) (by kernel_rfl) (by kernel_rfl) rfl rfl (by kernel_rfl) (Xg.cell_now (b := b) (off := ((2 : Nat))) 0 rfl (by kernel_rfl)) (fun _ h => Xg.run_load (by kernel_rfl) (by kernel_rfl) h) ?_
    refine Xg.any_each [9] (by kernel_rfl) rfl ⟨?_, trivial⟩
    refine Xg.comes_act rfl (by kernel_rfl) (by kernel_rfl) (Xg.opx_call1' [] [row b (98 : TypeId) [iv s, Value.slice none (0 : Nat) (0 : Nat), Value.func (Fn.func (34 : Nat)) #[] #[]]] (fun _ => by kernel_rfl) (@h1 ) (by kernel_rfl) (by kernel_rfl) (by kernel_rfl) ?_)
    refine Xg.acts (Xg.owes_skip (by kernel_rfl) (Xg.owes_skip (by kernel_rfl) Xg.owes_nil)) ?_
    refine Xg.any_pure ((Value.tuple #[iv 0, Value.bool false])) 10 (by kernel_rfl) rfl (by kernel_rfl) (by kernel_rfl) (by kernel_rfl) (by kernel_rfl) rfl (fun _ => by kernel_rfl) ?_
    refine Xg.any_pure ((iv 0)) 11 (by kernel_rfl) rfl (by kernel_rfl) (by kernel_rfl) (by kernel_rfl) (by kernel_rfl) rfl (fun _ => by kernel_rfl) ?_
    refine Xg.any_pure ((Value.bool false)) 12 (by kernel_rfl) rfl (by kernel_rfl) (by kernel_rfl) (by kernel_rfl) (by kernel_rfl) rfl (fun _ => by kernel_rfl) ?_
    refine Xg.any_pure ((iv 0)) 13 (by kernel_rfl) rfl (by kernel_rfl) (by kernel_rfl) (by kernel_rfl) (by kernel_rfl) rfl (fun _ => by kernel_rfl) ?_
    refine Xg.any_pure ((Value.bool false)) 14 (by kernel_rfl) rfl (by kernel_rfl) (by kernel_rfl) (by kernel_rfl) (by kernel_rfl) rfl (fun _ => by kernel_rfl) ?_
    refine Xg.any_nil (by kernel_rfl) ?_
    refine Xg.at_region ?_
    refine Xg.ops_op (by kernel_rfl) (Xg.opx_pure ((pv b 1)) rfl (fun _ => by kernel_rfl) ?_)
    refine Xg.ops_op (by kernel_rfl) (Xg.opx_pure ((pv b 1)) rfl (fun _ => by kernel_rfl) ?_)
    refine Xg.ops_op (by kernel_rfl) (Xg.opx_pure ((pv b 1)) rfl (fun _ => by kernel_rfl) ?_)
    refine Xg.ops_op (by kernel_rfl) (Xg.opx_pure ((pv b 1)) rfl (fun _ => by kernel_rfl) ?_)
    refine Xg.ops_op (by kernel_rfl) (Xg.opx_load (b := b) (off := ((1 : Nat))) 0 (Value.slice none (0 : Nat) (0 : Nat)) rfl (by kernel_rfl) (by kernel_rfl) (by kernel_rfl) ?_)
    refine Xg.ops_op (by kernel_rfl) (Xg.opx_pure ((iv 0)) rfl (fun _ => by kernel_rfl) ?_)
    refine Xg.ops_op (by kernel_rfl) (Xg.opx_pure ((iv 0)) rfl (fun _ => by kernel_rfl) ?_)
    refine Xg.ops_op (by kernel_rfl) (Xg.opx_bs (elem := 3) 1 [iv 0] [iv 0] (by kernel_rfl) (by kernel_rfl) (by decide) rfl (by kernel_rfl) (by kernel_rfl) (by kernel_rfl) (by kernel_rfl) fun xb1 => ?_)
    refine Xg.ops_op (by kernel_rfl) (Xg.opx_callE' [0] (fun xx1 => [ints (3 : TypeId) IntKind.i64 xx1.fst xx1.snd [(0 : Int)], row b (98 : TypeId) [iv s, Value.slice none (0 : Nat) (0 : Nat), Value.func (Fn.func (34 : Nat)) #[] #[]]]) (fun _ => by kernel_rfl) (@Go.Proofs.Ytmplimmcjdkhlaa.insert_d (xb1)) (by kernel_rfl) (by kernel_rfl) (by kernel_rfl) fun xx1 xh1 => ?_)
    try dsimp only at xh1
    refine Xg.ops_op (by kernel_rfl) (Xg.opx_pure ((pv b 1)) rfl (fun _ => by kernel_rfl) ?_)
    refine Xg.ops_op (by kernel_rfl) (Xg.opx_pure ((pv b 1)) rfl (fun _ => by kernel_rfl) ?_)
    refine Xg.ops_op (by kernel_rfl) (Xg.opx_store1 (off := 1) 1 (Value.slice xx1.fst (1 : Nat) xx1.snd) (by kernel_rfl) rfl (by kernel_rfl) (by kernel_rfl) (by kernel_rfl) (Nat.le_of_ble_eq_true (by kernel_rfl)) ?_)
    refine Xg.ops_nil ?_
    refine Xg.at_end_ps (v := (tu)) [1, 0] [row b (98 : TypeId) [iv s, Value.slice xx1.fst (1 : Nat) xx1.snd, Value.func (Fn.func (34 : Nat)) #[] #[]], ints (3 : TypeId) IntKind.i64 xx1.fst xx1.snd [(0 : Int)]] Go.Proofs.Try.func35 (fun _ => by kernel_rfl) (by kernel_rfl) (by kernel_rfl) ?_
    refine ⟨((xx1.fst, xx1.snd)), trivial, by kernel_rfl, by kernel_rfl⟩)

section
variable {P : Program} {g : World} {F : List HP} {T : List Value} {L : List HP} {K : List Value → List HP → Prop}
/-- make of things of one cell: a row of zeros. -/
theorem opx_make_row {d : Nat} {t ty elem : TypeId} {x y : Operand} {pos : String} {after : Array Edge} {gd : Option (Nat × Bool)} {k1 k2 : IntKind} (n by_ : Nat) (z : Value)
    (hu : slTy P t elem = true) (hE : El P elem z 1 by_) (hz : z.cells = #[z]) (hx : ev T x = .int k1 (n : Nat)) (hy : ev T y = .int k2 (n : Nat)) (hb : by_ * n ≤ 281474976710656) (h63 : n ≤ maxLen)
    (h : ∀ b, K (T.set d (.slice (some ⟨b, 0, none⟩) n n)) (row b elem (List.replicate n z) :: L)) :
    OpX P g F { dst := some d, op := .makeSlice t x y, type := ty, pos, after, guard := gd } T L K := by
  constructor
  intro w hS
  obtain ⟨b, w', hr, h'⟩ := hS.make t elem z 1 by_ (slTy_u hu) hE k1 k2 (n : Int) (n : Int) (by omega) (by omega) (by omega) (by omega)
  rw [Int.toNat_natCast] at hr h'
  have e : (madeCells z.cells (n * 1)).toList = List.replicate n z := by
    rw [hz]
    apply List.ext_getElem
    · simp [madeCells]
    · intro i h1 h2
      simp [madeCells, Nat.mod_one]
  rw [e] at h'
  exact op_value (exec_make _ (by rw [act_eval, act_eval, hx, hy]; exact hr)) ⟨_, row b elem (List.replicate n z) :: L, by rw [act_put]; rfl, h', h b⟩
end

def upd {α : Type} (f : Nat → α) (i : Nat) (v : α) : Nat → α := fun j => if j = i then v else f j
def ptrO : Option Nat → Value
  | none => .pointer none
  | some b => .pointer (some ⟨b, 0, none⟩)
/-- Cells by their places. -/
def arr0 (n : Nat) (f : Nat → Value) : List Value := (List.range n).map f
noncomputable def arr : Nat → (Nat → Value) → List Value := Classical.choose (⟨arr0, rfl⟩ : ∃ f : Nat → (Nat → Value) → List Value, f = arr0)
theorem arr_eq : arr = arr0 := Classical.choose_spec (⟨arr0, rfl⟩ : ∃ f : Nat → (Nat → Value) → List Value, f = arr0)
theorem arr_get (n : Nat) (f : Nat → Value) (i : Nat) (h : i < n) : Gets (arr n f) i (f i) := by rw [arr_eq]; unfold Gets arr0; simp [h]
theorem arr_set (n : Nat) (f : Nat → Value) (i : Nat) (v : Value) (h : i < n) : Sets (arr n f) i v (arr n (upd f i v)) := by
  rw [arr_eq]
  refine ⟨by simp [arr0, h], ?_⟩
  apply List.ext_getElem (by simp [arr0])
  intro j h1 h2
  simp only [arr0, List.getElem_set, List.getElem_map, List.getElem_range, upd]
  by_cases e : i = j
  · rw [if_pos e, if_pos e.symm]
  · rw [if_neg e, if_neg (fun h => e h.symm)]
theorem arr_rep (n : Nat) (z : Value) : List.replicate n z = arr n fun _ => z := by
  rw [arr_eq]
  apply List.ext_getElem (by simp [arr0])
  intro i h1 h2
  simp [arr0]
noncomputable abbrev pcs (n : Nat) (f : Nat → Option Nat) : List Value := arr n fun i => ptrO (f i)
noncomputable abbrev bcs (n : Nat) (f : Nat → Bool) : List Value := arr n fun i => .bool (f i)
theorem upd_map {α β : Type} (f : Nat → α) (i : Nat) (v : α) (F : α → β) : upd (fun j => F (f j)) i (F v) = fun j => F (upd f i v j) := by
  funext j; unfold upd; split <;> rfl
theorem g_none (n : Nat) (f : Nat → Option Nat) (i : Nat) (h : i < n) (hf : f i = none) : Gets (pcs n f) i (.pointer none) := by
  have := arr_get n (fun i => ptrO (f i)) i h
  rw [hf] at this; exact this
theorem g_some (n : Nat) (f : Nat → Option Nat) (i b : Nat) (h : i < n) (hf : f i = some b) : Gets (pcs n f) i (.pointer (some ⟨b, 0, none⟩)) := by
  have := arr_get n (fun i => ptrO (f i)) i h
  rw [hf] at this; exact this
theorem s_none (n : Nat) (f : Nat → Option Nat) (i : Nat) (h : i < n) : Sets (pcs n f) i (.pointer none) (pcs n (upd f i none)) := by
  have := arr_set n (fun i => ptrO (f i)) i (ptrO none) h; rwa [upd_map] at this
theorem s_some (n : Nat) (f : Nat → Option Nat) (i b : Nat) (h : i < n) : Sets (pcs n f) i (.pointer (some ⟨b, 0, none⟩)) (pcs n (upd f i (some b))) := by
  have := arr_set n (fun i => ptrO (f i)) i (ptrO (some b)) h; rwa [upd_map] at this
theorem g_t (n : Nat) (f : Nat → Bool) (i : Nat) (h : i < n) (hf : f i = true) : Gets (bcs n f) i (.bool true) := by
  have := arr_get n (fun i => .bool (f i)) i h
  rw [hf] at this; exact this
theorem g_f (n : Nat) (f : Nat → Bool) (i : Nat) (h : i < n) (hf : f i = false) : Gets (bcs n f) i (.bool false) := by
  have := arr_get n (fun i => .bool (f i)) i h
  rw [hf] at this; exact this
theorem s_b (n : Nat) (f : Nat → Bool) (i : Nat) (v : Bool) (h : i < n) : Sets (bcs n f) i (.bool v) (bcs n (upd f i v)) := by
  have := arr_set n (fun i => .bool (f i)) i (.bool v) h; rwa [upd_map f i v Value.bool] at this

/-- The arenas that are open: nothing was taken. -/
abbrev AreP (b : Nat) : HP := row b 105 [.int .i64 5, .int .i64 0, .slice none 0 0]
def AllP (bs : List Nat) : HP := seps (bs.map AreP)
def PoolP (p n : Nat) (f : Nat → Option Nat) : HP := fun m => ∃ (ab : Nat) (cv bv : Value), seps [row p 94 [cv, bv, .slice (some ⟨ab, 0, none⟩) n n], row ab 102 (pcs n f), AllP ((List.range n).filterMap f)] m

theorem pool_open {p n : Nat} {f : Nat → Option Nat} {g w : World} {L : List HP} (h : SL g (PoolP p n f :: L) w) : ∃ ab cv bv, SL g (row p 94 [cv, bv, .slice (some ⟨ab, 0, none⟩) n n] :: row ab 102 (pcs n f) :: AllP ((List.range n).filterMap f) :: L) w := by
  obtain ⟨ab, h⟩ := SL.ex.1 h
  obtain ⟨cv, h⟩ := SL.ex.1 h
  obtain ⟨bv, h⟩ := SL.ex.1 h
  exact ⟨ab, cv, bv, SL.flat.1 h⟩
theorem pool_shut {p n : Nat} {f : Nat → Option Nat} {g w : World} {L : List HP} {ab cv bv} (h : SL g (row p 94 [cv, bv, .slice (some ⟨ab, 0, none⟩) n n] :: row ab 102 (pcs n f) :: AllP ((List.range n).filterMap f) :: L) w) : SL g (PoolP p n f :: L) w :=
  SL.ex.2 ⟨ab, SL.ex.2 ⟨cv, SL.ex.2 ⟨bv, SL.flat.2 h⟩⟩⟩
theorem all_perm {bs cs : List Nat} (hp : bs.Perm cs) {g w : World} {L : List HP} (h : SL g (AllP bs :: L) w) : SL g (AllP cs :: L) w :=
  SL.flat.2 ((SL.flat.1 h).perm ((hp.map AreP).append_right L))
theorem all_take {b : Nat} {bs : List Nat} {g w : World} {L : List HP} (h : SL g (AllP (b :: bs) :: L) w) : SL g (AreP b :: AllP bs :: L) w := SL.flat1.1 h
theorem all_put {b : Nat} {bs : List Nat} {g w : World} {L : List HP} (h : SL g (AreP b :: AllP bs :: L) w) : SL g (AllP (b :: bs) :: L) w := SL.flat1.2 h
theorem fmc {α β : Type} {f g : α → Option β} : ∀ l : List α, (∀ x ∈ l, f x = g x) → l.filterMap f = l.filterMap g
  | [], _ => rfl
  | x :: l, h => by
    rw [List.filterMap_cons, List.filterMap_cons, h x (.head _), fmc l fun y hy => h y (.tail _ hy)]
theorem fm_put (f : Nat → Option Nat) (b : Nat) : ∀ (n k : Nat), k < n → f k = none → ((List.range n).filterMap (upd f k (some b))).Perm (b :: (List.range n).filterMap f)
  | 0, _, h, _ => by omega
  | n + 1, k, h, hf => by
    rw [List.range_succ, List.filterMap_append, List.filterMap_append]
    by_cases e : k = n
    · subst e
      have e1 : (List.range k).filterMap (upd f k (some b)) = (List.range k).filterMap f := fmc _ fun x hx => by
        have := List.mem_range.1 hx
        unfold upd; rw [if_neg (by omega)]
      have e2 : [k].filterMap (upd f k (some b)) = [b] := by simp [upd]
      have e3 : [k].filterMap f = [] := by simp [hf]
      rw [e1, e2, e3, List.append_nil]
      exact List.perm_append_singleton _ _
    · have ih := fm_put f b n k (by omega) hf
      have e2 : [n].filterMap (upd f k (some b)) = [n].filterMap f := fmc _ fun x hx => by
        have : x = n := by simpa using hx
        unfold upd; rw [if_neg (by omega)]
      rw [e2]
      exact ih.append_right _
theorem fm_none : ∀ n : Nat, (List.range n).filterMap (fun _ => (none : Option Nat)) = [] := fun n => by simp
end Go.Proofs.Ytmplimmcjdkhlaa
