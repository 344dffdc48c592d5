import Derived.Test.YtmplimmcjdkhlaaMPicked10
import Derived.Shelf.Abstract
/- The arena package: New, of one class of two buffers. -/
namespace Go.Proofs.Ytmplimmcjdkhlaa
open Go.Sl Go.Xg
set_option linter.unusedVariables false
set_option linter.unusedSimpArgs false
set_option linter.unnecessarySimpa false
set_option maxHeartbeats 4000000
set_option maxRecDepth 100000

theorem enters_order : Go.Proofs.Enters Try.prog 34 := enters_of Try.func34 (by kernel_rfl) rfl
end Go.Proofs.Ytmplimmcjdkhlaa

/- The arena package: New, of one class of two buffers. -/
namespace Go.Proofs.Ytmplimmcjdkhlaa
open Go.Sl Go.Xg
set_option linter.unusedVariables false
set_option linter.unusedSimpArgs false
set_option linter.unnecessarySimpa false
set_option maxHeartbeats 4000000
set_option maxRecDepth 100000

/-- A class: its size, what is free; a buffer: its class, its bytes. -/
abbrev clC (x : Int × Option Addr × Nat × Nat) : List Value := [.int .i64 x.1, .slice x.2.1 x.2.2.1 x.2.2.2, fnO]
abbrev bfC (x : Int × Option Addr × Nat × Nat) : List Value := [.int .i64 x.1, .slice x.2.1 x.2.2.1 x.2.2.2]

end Go.Proofs.Ytmplimmcjdkhlaa

/- The arena package: a class of two buffers: Open, take, lease, IndexFunc. -/
namespace Go.Proofs.Ytmplimmcjdkhlaa
open Go.Sl Go.Xg
set_option linter.unusedVariables false
set_option linter.unusedSimpArgs false
set_option linter.unnecessarySimpa false
set_option maxHeartbeats 4000000
set_option maxRecDepth 100000

abbrev H2 (p ab : Nat) (ca : Option Addr) (cc : Nat) (ba : Option Addr) (bc : Nat) : HP := row p 94 [.slice ca 1 cc, .slice ba 2 bc, .slice (some ⟨ab, 0, none⟩) 1 1]
abbrev C2 (ca : Option Addr) (cc : Nat) (n : Int) (fa : Option Addr) (fl fc : Nat) : HP := recsO 98 3 clC ca cc [(n, fa, fl, fc)]
abbrev B2 (ba : Option Addr) (bc : Nat) (x y : Int × Option Addr × Nat × Nat) : HP := recsO 101 2 bfC ba bc [x, y]
abbrev A2 (ab r : Nat) : HP := row ab 102 [.pointer (some ⟨r, 0, none⟩)]
abbrev R2 (r : Nat) (q u : Int) (ta : Option Addr) (tl tc : Nat) : HP := row r 105 [.int .i64 q, .int .i64 u, .slice ta tl tc]
abbrev I2 (a : Option Addr) (c : Nat) (l : List Int) : HP := ints 3 .i64 a c l

theorem sizeT_d (b : Nat) (X : HP) (s n : Int) (a : Option Addr) (l c : Nat) : Does Try.prog 40 [.agg #[.int .i64 n, .slice a l c, fnO], .pointer (some ⟨b, 0, none⟩)] [X, row b 3 [.int .i64 s]] (Ret (.bool (decide (n ≥ s))) [X, row b 3 [.int .i64 s]]) := by
  (focus
    refine Xg.spec_of Go.Proofs.Try.func40 rfl Go.Proofs.Try.ntmps40 fun g F => ?_)
  (focus
    refine Xg.at_seq ?_
    refine Xg.at_region ?_
    refine Xg.ops_op (by kernel_rfl) (Xg.opx_box (v := (Value.agg #[iv n, Value.slice a l c, Value.func (Fn.func (34 : Nat)) #[] #[]])) [iv n, Value.slice a l c, Value.func (Fn.func (34 : Nat)) #[] #[]] (by kernel_rfl) (by kernel_rfl) fun xb1 => ?_)
    refine Xg.ops_op (by kernel_rfl) (Xg.opx_pure ((Value.bool false)) rfl (fun _ => by kernel_rfl) ?_)
    refine Xg.ops_nil ?_
    refine Xg.at_seq ?_
    refine Xg.at_region ?_
    refine Xg.ops_op (by kernel_rfl) (Xg.opx_pure ((pv xb1 0)) rfl (fun _ => by kernel_rfl) ?_)
    refine Xg.ops_op (by kernel_rfl) (Xg.opx_load (b := xb1) (off := ((0 : Nat))) 0 (iv n) rfl (by kernel_rfl) (by kernel_rfl) (by kernel_rfl) ?_)
    refine Xg.ops_op (by kernel_rfl) (Xg.opx_load (b := b) (off := ((0 : Nat))) 2 (iv s) rfl (by kernel_rfl) (by kernel_rfl) (by kernel_rfl) ?_)
    refine Xg.ops_op (by kernel_rfl) (Xg.opx_pure (.bool (decide ((n : Int) ≥ s))) rfl (fun _ => by kernel_rfl) ?_)
    refine Xg.ops_op (by kernel_rfl) (Xg.opx_pure ((Value.bool (decide (n ≥ s)))) rfl (fun _ => by kernel_rfl) ?_)
    refine Xg.ops_nil ?_
    refine Xg.at_ret_ps (v := (Value.bool (decide (n ≥ s)))) [1, 2] [X, row b (3 : TypeId) [iv s]] Go.Proofs.Try.func40 (fun _ => by kernel_rfl) (by kernel_rfl) (by kernel_rfl) ?_
    exact ⟨by kernel_rfl, by kernel_rfl⟩)
theorem deli0_d (a : Option Addr) (c : Nat) (xs : List Int) (i : Nat) (hi : i < xs.length) : Does Try.prog 46 [.slice a xs.length c, .int .i64 (i : Nat), .int .i64 ((i : Int) + 1)] [I2 a c xs]
    (Ret (.slice a (xs.length - 1) c) [ownS 3 1 (.slice a (xs.length - 1) c) (xs.length - 1) ((xs.eraseIdx i).map (Value.int .i64))]) := by
  (focus
    refine Xg.spec_of Go.Proofs.Try.func46 rfl Go.Proofs.Try.ntmps46 fun g F => ?_)
  refine Xg.at_own 0 rfl fun h1 h2 _ _ => ?_
  have hm : xs.length ≤ maxLen := Nat.le_trans h1 h2
  unfold maxLen at hm h2
  (focus
    refine Xg.at_seq ?_
    refine Xg.at_region ?_
    refine Xg.ops_op (by kernel_rfl) (Xg.opx_pure ((Value.slice none (0 : Nat) (0 : Nat))) rfl (fun _ => by kernel_rfl) ?_)
    refine Xg.ops_nil ?_
    refine Xg.at_seq ?_
    refine Xg.at_region ?_
    refine Xg.ops_op (by kernel_rfl) (Xg.opx_pure ((Value.slice a xs.length c)) rfl (fun _ => by kernel_rfl) ?_)
    refine Xg.ops_op (by kernel_rfl) (Xg.opx_pure ((iv (↑i : Int))) rfl (fun _ => by kernel_rfl) ?_)
    refine Xg.ops_op (by kernel_rfl) (Xg.opx_pure ((iv ((↑i : Int) + (1 : Int)))) rfl (fun _ => by kernel_rfl) ?_)
    refine Xg.ops_op (by kernel_rfl) (Xg.opx_pure ((Value.slice a xs.length c)) rfl (fun _ => by kernel_rfl) ?_)
    refine Xg.ops_op (by kernel_rfl) (Xg.opx_pure ((iv (↑xs.length : Int))) rfl (fun _ => by kernel_rfl) ?_)
    refine Xg.ops_op (by kernel_rfl) (Xg.opx_run (.slice (Xg.subA a xs.length i 1) ((((↑i : Int) + (1 : Int)).toNat) - i) (xs.length - i)) rfl (Xg.run_sl3 (elem := 3) (a := a) (c := c) (len := xs.length) (k1 := .i64) (k2 := .i64) (k3 := .i64) (e1 := ((↑i : Int))) (e2 := ((↑i : Int) + (1 : Int))) (e3 := ((↑xs.length : Int))) 1 i (((↑i : Int) + (1 : Int)).toNat) xs.length (by kernel_rfl) (by kernel_rfl) (by kernel_rfl) (by kernel_rfl) (by kernel_rfl) (by kernel_rfl) rfl (by omega) rfl (by omega) (by omega) (by omega)) ?_)
    refine Xg.ops_nil ?_
    refine Xg.at_seq ?_
    refine Xg.at_seq ?_
    refine Xg.at_region ?_
    refine Xg.ops_op (by kernel_rfl) (Xg.opx_pure ((iv (↑i : Int))) rfl (fun _ => by kernel_rfl) ?_)
    refine Xg.ops_op (by kernel_rfl) (Xg.opx_pure ((iv ((↑i : Int) + (1 : Int)))) rfl (fun _ => by kernel_rfl) ?_)
    refine Xg.ops_op (by kernel_rfl) (Xg.opx_pure (.bool (decide ((((↑i : Int)) : Int) = ((↑i : Int) + (1 : Int))))) rfl (fun _ => by kernel_rfl) ?_)
    refine Xg.ops_nil ?_
    refine Xg.at_false (t := decide (((↑i : Int) = (↑i : Int) + (1 : Int)))) (by kernel_rfl) (decide_eq_false (by omega)) ?_
    refine Xg.at_skip ?_
    refine Xg.at_seq ?_
    refine Xg.at_region ?_
    refine Xg.ops_op (by kernel_rfl) (Xg.opx_pure ((Value.slice a xs.length c)) rfl (fun _ => by kernel_rfl) ?_)
    refine Xg.ops_op (by kernel_rfl) (Xg.opx_pure ((iv (↑xs.length : Int))) rfl (fun _ => by kernel_rfl) ?_)
    refine Xg.ops_op (by kernel_rfl) (Xg.opx_pure ((iv (↑xs.length : Int))) rfl (fun _ => by kernel_rfl) ?_)
    refine Xg.ops_nil ?_
    refine Xg.at_seq ?_
    refine Xg.at_draw [6] [] (by kernel_rfl) ?_
    refine Xg.any_pure ((Value.slice a xs.length c)) 0 (by kernel_rfl) rfl (by kernel_rfl) (by kernel_rfl) (by kernel_rfl) (by kernel_rfl) rfl (fun _ => by kernel_rfl) ?_
    refine Xg.any_pure ((iv (↑i : Int))) 1 (by kernel_rfl) rfl (by kernel_rfl) (by kernel_rfl) (by kernel_rfl) (by kernel_rfl) rfl (fun _ => by kernel_rfl) ?_
    refine Xg.any_pure (.slice a i c) 2 (by kernel_rfl) rfl (by kernel_rfl) (by kernel_rfl) (by kernel_rfl) (by kernel_rfl) rfl (Xg.run_sl_hi (elem := 3) (a := a) (c := c) (len := xs.length) (k2 := .i64) (e2 := ((↑i : Int))) 1 i (by kernel_rfl) (by kernel_rfl) (by kernel_rfl) (by kernel_rfl) rfl (by omega)) ?_
    refine Xg.any_pure ((Value.slice a xs.length c)) 3 (by kernel_rfl) rfl (by kernel_rfl) (by kernel_rfl) (by kernel_rfl) (by kernel_rfl) rfl (fun _ => by kernel_rfl) ?_
    refine Xg.any_pure ((iv ((↑i : Int) + (1 : Int)))) 4 (by kernel_rfl) rfl (by kernel_rfl) (by kernel_rfl) (by kernel_rfl) (by kernel_rfl) rfl (fun _ => by kernel_rfl) ?_
    refine Xg.any_pure (.slice (Xg.subA a c (((↑i : Int) + (1 : Int)).toNat) 1) (xs.length - (((↑i : Int) + (1 : Int)).toNat)) (c - (((↑i : Int) + (1 : Int)).toNat))) 5 (by kernel_rfl) rfl (by kernel_rfl) (by kernel_rfl) (by kernel_rfl) (by kernel_rfl) rfl (Xg.run_sl_lo (elem := 3) (a := a) (c := c) (len := xs.length) (k1 := .i64) (e1 := ((↑i : Int) + (1 : Int))) 1 (((↑i : Int) + (1 : Int)).toNat) (by kernel_rfl) (by kernel_rfl) (by kernel_rfl) (by kernel_rfl) (by omega) (by omega)) ?_)
  refine Xg.any_each [6] (by kernel_rfl) rfl ⟨?_, trivial⟩
  refine Xg.comes_act rfl (by kernel_rfl) (by kernel_rfl) (Xg.opx_append_in (elem := 3) (n := xs.length) (c := c) (l := i) (m := xs.length - ((i : Int) + 1).toNat) (news := (((xs.map (Value.int .i64)).drop (((i : Int) + 1).toNat * 1)).take ((xs.length - ((i : Int) + 1).toNat) * 1))) (xs.length - 1) 0 1 (by omega) rfl (by kernel_rfl) (by kernel_rfl) (by kernel_rfl) (by kernel_rfl) (fun w hS => reads_rd (reads_part ((i : Int) + 1).toNat xs.length (by omega) (Nat.le_refl _)) 0 rfl hS) (fun u hu => by obtain ⟨z, _, rfl⟩ := List.mem_map.1 (List.mem_of_mem_drop (List.mem_of_mem_take hu)); rfl) (by omega) (by omega) ?_)
  refine Xg.acts Xg.owes_nil ?_
  (focus
    refine Xg.any_pure ((Value.slice a (xs.length - (1 : Nat)) c)) 7 (by kernel_rfl) rfl (by kernel_rfl) (by kernel_rfl) (by kernel_rfl) (by kernel_rfl) rfl (fun _ => by kernel_rfl) ?_
    refine Xg.any_nil (by kernel_rfl) ?_
    refine Xg.at_seq ?_
    refine Xg.at_region ?_
    refine Xg.ops_op (by kernel_rfl) (Xg.opx_pure ((Value.slice a (xs.length - (1 : Nat)) c)) rfl (fun _ => by kernel_rfl) ?_)
    refine Xg.ops_op (by kernel_rfl) (Xg.opx_pure ((Value.slice a (xs.length - (1 : Nat)) c)) rfl (fun _ => by kernel_rfl) ?_)
    refine Xg.ops_op (by kernel_rfl) (Xg.opx_pure ((iv (↑(xs.length - (1 : Nat)) : Int))) rfl (fun _ => by kernel_rfl) ?_)
    refine Xg.ops_op (by kernel_rfl) (Xg.opx_pure ((iv (↑xs.length : Int))) rfl (fun _ => by kernel_rfl) ?_)
    refine Xg.ops_op (by kernel_rfl) (Xg.opx_run (.slice (Xg.subA a c (xs.length - (1 : Nat)) 1) (xs.length - (xs.length - (1 : Nat))) (c - (xs.length - (1 : Nat)))) rfl (Xg.run_sl (elem := 3) (a := a) (c := c) (len := (xs.length - (1 : Nat))) (k1 := .i64) (k2 := .i64) (e1 := ((↑(xs.length - (1 : Nat)) : Int))) (e2 := ((↑xs.length : Int))) 1 (xs.length - (1 : Nat)) xs.length (by kernel_rfl) (by kernel_rfl) (by kernel_rfl) (by kernel_rfl) (by kernel_rfl) rfl rfl (by omega) (by omega)) ?_))
  refine Xg.ops_op (by kernel_rfl) (Xg.opx_clear_in (elem := 3) (n := xs.length) (c := c) (l := xs.length - 1) (m := xs.length - (xs.length - 1)) (c' := c - (xs.length - 1)) 0 1 rfl (by kernel_rfl) (by kernel_rfl) (by kernel_rfl) (by kernel_rfl) (by omega) (by omega) fun zs hz => ?_)
  simp only [Nat.mul_one]
  rw [← List.map_take, ← List.map_drop, ← List.map_take, ← List.map_drop, ← List.map_append, ← List.map_append, ← List.map_take, show ((i : Int) + 1).toNat = i + 1 from by omega]
  rw [show (xs.take i ++ (xs.drop (i + 1)).take (xs.length - (i + 1)) ++ xs.drop (i + (xs.length - (i + 1)))).take (xs.length - 1) = xs.eraseIdx i from by
    rw [List.eraseIdx_eq_take_drop_succ, List.take_of_length_le (l := xs.drop (i + 1)) (by simp), List.take_append_of_le_length (by simp; omega), List.take_of_length_le (by simp; omega)]]
  refine Xg.ops_nil ?_
  refine Xg.at_shrink (m := xs.length - 1) 0 rfl (by omega) (by rw [List.length_map, List.length_eraseIdx, if_pos hi, Nat.mul_one]) ?_
  (focus
    refine Xg.at_seq ?_
    refine Xg.at_region ?_
    refine Xg.ops_op (by kernel_rfl) (Xg.opx_pure ((Value.slice a (xs.length - (1 : Nat)) c)) rfl (fun _ => by kernel_rfl) ?_)
    refine Xg.ops_op (by kernel_rfl) (Xg.opx_pure ((Value.slice a (xs.length - (1 : Nat)) c)) rfl (fun _ => by kernel_rfl) ?_)
    refine Xg.ops_nil ?_
    refine Xg.at_ret_ps (v := (Value.slice a (xs.length - (1 : Nat)) c)) [0] [ownS (3 : TypeId) (1 : Nat) (Value.slice a (xs.length - (1 : Nat)) c) (xs.length - (1 : Nat)) (List.map (Value.int IntKind.i64) (xs.eraseIdx i))] Go.Proofs.Try.func46 (fun _ => by kernel_rfl) (by kernel_rfl) (by kernel_rfl) ?_
    exact ⟨by kernel_rfl, by kernel_rfl⟩)
theorem deli_d (a : Option Addr) (c : Nat) (xs : List Int) (i : Nat) (hi : i < xs.length) : Does Try.prog 46 [.slice a xs.length c, .int .i64 (i : Nat), .int .i64 ((i : Int) + 1)] [I2 a c xs]
    (Ret (.slice a (xs.eraseIdx i).length c) [I2 a c (xs.eraseIdx i)]) := by
  have h := deli0_d a c xs i hi
  have e : (xs.eraseIdx i).length = xs.length - 1 := by rw [List.length_eraseIdx, if_pos hi]
  unfold I2 Xg.ints
  rwa [e]

end Go.Proofs.Ytmplimmcjdkhlaa

/- The arena package: a class of two buffers: Take, twice. -/
namespace Go.Proofs.Ytmplimmcjdkhlaa
open Go.Sl Go.Xg
set_option linter.unusedVariables false
set_option linter.unusedSimpArgs false
set_option linter.unnecessarySimpa false
set_option maxHeartbeats 4000000
set_option maxRecDepth 100000

def nA : Option Addr := none
abbrev Y2 (a : Option Addr) (c : Nat) (l : List Int) : HP := ints 5 .u8 a c l
end Go.Proofs.Ytmplimmcjdkhlaa

/- The arena package: a class of two buffers: spans, Store, Load. -/
namespace Go.Proofs.Ytmplimmcjdkhlaa
open Go.Sl Go.Xg
set_option linter.unusedVariables false
set_option linter.unusedSimpArgs false
set_option linter.unnecessarySimpa false
set_option maxHeartbeats 4000000
set_option maxRecDepth 100000

section
variable (p ab r : Nat) (ca : Option Addr) (cc : Nat) (ba : Option Addr) (bc n : Nat) (hn : 1 ≤ n) (hn3 : n ≤ 300) (q u : Int) (xa ya ta : Option Addr) (tc : Nat)
include hn hn3
end

section
variable (p ab r : Nat) (ca : Option Addr) (cc : Nat) (ba : Option Addr) (bc n : Nat) (hn : 1 ≤ n) (hn3 : n ≤ 300) (q u : Int) (xa ya ta : Option Addr) (tc : Nat)
include hn hn3
end
end Go.Proofs.Ytmplimmcjdkhlaa

/- The arena package: a class of two buffers: Store. -/
namespace Go.Proofs.Ytmplimmcjdkhlaa
open Go.Sl Go.Xg
set_option linter.unusedVariables false
set_option linter.unusedSimpArgs false
set_option linter.unnecessarySimpa false
set_option maxHeartbeats 4000000
set_option maxRecDepth 100000

section
variable {P : Program} {g : World} {F : List HP} {T : List Value} {L : List HP} {K : List Value → List HP → Prop}
end

section
variable (p ab r : Nat) (ca : Option Addr) (cc : Nat) (ba : Option Addr) (bc n : Nat) (hn : 1 ≤ n) (hn3 : n ≤ 300) (q u : Int) (xa ya ta : Option Addr) (tc : Nat)
include hn hn3
end
end Go.Proofs.Ytmplimmcjdkhlaa

/- A star over places: one part is taken out, changed, put back. Over any program. -/
namespace Go.Xg
open Go Go.Sl
set_option linter.unusedVariables false

def updF {α : Type _} (f : Nat → α) (i : Nat) (v : α) : Nat → α := fun j => if j = i then v else f j
theorem updF_same {α : Type _} (f : Nat → α) (i : Nat) (v : α) : updF f i v i = v := if_pos rfl
theorem updF_ne {α : Type _} (f : Nat → α) {i j : Nat} (v : α) (h : j ≠ i) : updF f i v j = f j := if_neg h
theorem updF_two {α : Type _} (f : Nat → α) (i : Nat) (v w : α) : updF (updF f i v) i w = updF f i w := by funext j; unfold updF; split <;> rfl
theorem updF_self {α : Type _} (f : Nat → α) (i : Nat) : updF f i (f i) = f := by
  funext j; unfold updF; split
  · rename_i h; rw [h]
  · rfl
theorem updF_map {α β : Type _} (f : Nat → α) (i : Nat) (v : α) (F : α → β) : updF (fun j => F (f j)) i (F v) = fun j => F (updF f i v j) := by
  funext j; unfold updF; split <;> rfl

def emp : HP := seps []
/-- One part a place. -/
def starN (n : Nat) (F : Nat → HP) : HP := seps ((List.range n).map F)

theorem range_split {β : Type _} (n k : Nat) (hk : k < n) (G : Nat → β) : (List.range n).map G = (List.range k).map G ++ G k :: ((List.range n).drop (k + 1)).map G := by
  have e : List.range n = List.range k ++ k :: (List.range n).drop (k + 1) := by
    have h1 : (List.range n)[k]'(by rw [List.length_range]; exact hk) = k := List.getElem_range ..
    have h2 : (List.range n).take k = List.range k := by rw [List.take_range, Nat.min_eq_left (Nat.le_of_lt hk)]
    conv => lhs; rw [← List.take_append_drop k (List.range n), h2]
    rw [← List.getElem_cons_drop (by rw [List.length_range]; exact hk), h1]
  conv => lhs; rw [e]
  rw [List.map_append, List.map_cons]
theorem star_list (n k : Nat) (hk : k < n) (F : Nat → HP) (X : HP) : (List.range n).map (updF F k X) = (List.range k).map F ++ X :: ((List.range n).drop (k + 1)).map F := by
  rw [range_split n k hk, updF_same]
  congr 1
  · exact List.map_congr_left fun j hj => updF_ne F X (by have := List.mem_range.1 hj; omega)
  · congr 1
    refine List.map_congr_left fun j hj => updF_ne F X ?_
    obtain ⟨i, hi, e⟩ := List.getElem_of_mem hj
    rw [List.getElem_drop, List.getElem_range] at e
    omega

section
variable {g w : World} {L : List HP} {n k : Nat} {F : Nat → HP} {X : HP}
theorem SL.emp_iff : SL g (emp :: L) w ↔ SL g L w := SL.flat (K := [])
/-- Out. -/
theorem star_take (hk : k < n) (h : SL g (starN n F :: L) w) : SL g (F k :: starN n (updF F k emp) :: L) w := by
  have h1 := SL.flat.1 h
  rw [range_split n k hk] at h1
  have h2 : SL g (emp :: (((List.range k).map F ++ F k :: ((List.range n).drop (k + 1)).map F) ++ L)) w := SL.emp_iff.2 h1
  have h3 : SL g (starN n (updF F k emp) :: F k :: L) w := by
    refine SL.flat.2 ?_
    rw [star_list n k hk]
    refine h2.perm ?_
    generalize (List.range k).map F = A
    generalize ((List.range n).drop (k + 1)).map F = B
    show (emp :: ((A ++ F k :: B) ++ L)).Perm ((A ++ emp :: B) ++ (F k :: L))
    simp only [List.append_assoc, List.cons_append]
    refine (List.perm_middle (a := emp) (l₁ := A) (l₂ := F k :: (B ++ L))).symm.trans ?_
    refine List.Perm.append_left A (List.Perm.cons emp ?_)
    exact (List.perm_middle (a := F k) (l₁ := B) (l₂ := L)).symm
  exact h3.perm (.swap _ _ _)
/-- In. -/
theorem star_put (hk : k < n) (h : SL g (X :: starN n (updF F k emp) :: L) w) : SL g (starN n (updF F k X) :: L) w := by
  have h1 : SL g (starN n (updF F k emp) :: X :: L) w := h.perm (.swap _ _ _)
  have h2 := SL.flat.1 h1
  rw [star_list n k hk] at h2
  refine SL.flat.2 ?_
  rw [star_list n k hk]
  generalize (List.range k).map F = A at h2 ⊢
  generalize ((List.range n).drop (k + 1)).map F = B at h2 ⊢
  have h3 : SL g (emp :: (A ++ X :: B ++ L)) w := by
    refine h2.perm ?_
    simp only [List.append_assoc, List.cons_append]
    refine (List.perm_middle (a := emp) (l₁ := A) (l₂ := B ++ X :: L)).trans (List.Perm.cons emp ?_)
    exact List.Perm.append_left A (List.perm_middle (a := X) (l₁ := B) (l₂ := L))
  exact SL.emp_iff.1 h3
end
end Go.Xg

/- The arena package, any Pool: its rows by functions of a state. -/
namespace Go.Proofs.Ytmplimmcjdkhlaa
open Go.Sl Go.Xg
set_option linter.unusedVariables false
set_option linter.unusedSimpArgs false
set_option linter.unnecessarySimpa false
set_option maxHeartbeats 4000000
set_option maxRecDepth 100000

/-- A class: its size; its free numbers, where they lie. -/
structure Cls where
  size : Int
  fa : Option Addr
  fc : Nat
  fr : List Int
deriving Inhabited
/-- A buffer: its class; its bytes, where they lie. -/
structure Buf where
  cls : Nat
  a : Option Addr
  n : Nat
  c : Nat
deriving Inhabited
abbrev claK (x : Cls) : List Value := [.int .i64 x.size, .slice x.fa x.fr.length x.fc, fnO]
abbrev bufK (x : Buf) : List Value := [.int .i64 (x.cls : Nat), .slice x.a x.n x.c]

noncomputable def rowF {α : Type} : (α → List Value) → Nat → List Value → (Nat → α) → List Value := Classical.choose (⟨fun cells n sp f => recs cells ((List.range n).map f) ++ sp, rfl⟩ : ∃ F : (α → List Value) → Nat → List Value → (Nat → α) → List Value, F = fun cells n sp f => recs cells ((List.range n).map f) ++ sp)
theorem rowF_eq {α : Type} : (rowF (α := α)) = fun cells n sp f => recs cells ((List.range n).map f) ++ sp := Classical.choose_spec (⟨fun cells n sp f => recs cells ((List.range n).map f) ++ sp, rfl⟩ : ∃ F : (α → List Value) → Nat → List Value → (Nat → α) → List Value, F = fun cells n sp f => recs cells ((List.range n).map f) ++ sp)

theorem rowF_get {α : Type} [Inhabited α] {cells : α → List Value} (wd : Nat) (hw : ∀ x, (cells x).length = wd) (n : Nat) (sp : List Value) (f : Nat → α) (i j : Nat) (hi : i < n) (v : Value) (hj : j < wd) (hv : (cells (f i))[j]? = some v) : Gets (rowF cells n sp f) (i * wd + j) v := by
  rw [rowF_eq]
  unfold Gets
  have hl : (recs cells ((List.range n).map f)).length = n * wd := by rw [recs_len hw]; simp
  have hlt : i * wd + j < n * wd := by
    have : (i + 1) * wd ≤ n * wd := Nat.mul_le_mul_right _ hi
    rw [Nat.succ_mul] at this; omega
  rw [List.getElem?_append_left (by rw [hl]; exact hlt), get_recs hw default (by simpa using hi) hj]
  have e : ((List.range n).map f).getD i default = f i := by simp [List.getD, hi]
  rw [e]; exact hv
theorem recs_set {α : Type} {cells : α → List Value} {wd : Nat} (hw : ∀ x, (cells x).length = wd) : ∀ (l : List α) (i j : Nat) (v : Value) (x : α) (y : α), l[i]? = some x → j < wd → (cells x).set j v = cells y → (recs cells l).set (i * wd + j) v = recs cells (l.set i y)
  | [], i, j, v, x, y, h, _, _ => by simp at h
  | z :: l, 0, j, v, x, y, h, hj, hs => by
    simp at h; subst h
    simp only [recs, List.flatMap_cons, Nat.zero_mul, Nat.zero_add, List.set_cons_zero]
    rw [List.set_append_left _ _ (by rw [hw]; exact hj), hs]
  | z :: l, i + 1, j, v, x, y, h, hj, hs => by
    have ih := recs_set hw l i j v x y (by simpa using h) hj hs
    simp only [recs, List.flatMap_cons, List.set_cons_succ] at ih ⊢
    rw [List.set_append_right _ _ (by rw [hw, Nat.succ_mul]; omega), hw, show (i + 1) * wd + j - wd = i * wd + j from by rw [Nat.succ_mul]; omega, ih]
theorem rowF_set {α : Type} {cells : α → List Value} (wd : Nat) (hw : ∀ x, (cells x).length = wd) (n : Nat) (sp : List Value) (f : Nat → α) (i j : Nat) (hi : i < n) (v : Value) (y : α) (hj : j < wd) (hs : (cells (f i)).set j v = cells y) : Sets (rowF cells n sp f) (i * wd + j) v (rowF cells n sp (updF f i y)) := by
  rw [rowF_eq]
  have hl : (recs cells ((List.range n).map f)).length = n * wd := by rw [recs_len hw]; simp
  have hlt : i * wd + j < n * wd := by
    have : (i + 1) * wd ≤ n * wd := Nat.mul_le_mul_right _ hi
    rw [Nat.succ_mul] at this; omega
  refine ⟨by rw [List.length_append, hl]; omega, ?_⟩
  dsimp only
  rw [List.set_append_left _ _ (by rw [hl]; exact hlt), recs_set hw _ i j v (f i) y (by simp [hi]) hj hs]
  congr 2
  apply List.ext_getElem (by simp)
  intro k h1 h2
  simp only [List.getElem_set, List.getElem_map, List.getElem_range, updF]
  by_cases e : i = k
  · rw [if_pos e, if_pos e.symm]
  · rw [if_neg e, if_neg (fun h => e h.symm)]

noncomputable abbrev claR (n : Nat) (sp : List Value) (C : Nat → Cls) : List Value := rowF claK n sp C
noncomputable abbrev bufR (n : Nat) (sp : List Value) (B : Nat → Buf) : List Value := rowF bufK n sp B
theorem g_c0 (n : Nat) (sp : List Value) (C : Nat → Cls) (i : Nat) (hi : i < n) : Gets (claR n sp C) (i * 3) (.int .i64 (C i).size) := rowF_get 3 (fun _ => rfl) n sp C i 0 hi _ (by decide) rfl
theorem g_c1 (n : Nat) (sp : List Value) (C : Nat → Cls) (i : Nat) (hi : i < n) : Gets (claR n sp C) (i * 3 + 1) (.slice (C i).fa (C i).fr.length (C i).fc) := rowF_get 3 (fun _ => rfl) n sp C i 1 hi _ (by decide) rfl
theorem g_b0 (n : Nat) (sp : List Value) (B : Nat → Buf) (i : Nat) (hi : i < n) : Gets (bufR n sp B) (i * 2) (.int .i64 ((B i).cls : Nat)) := rowF_get 2 (fun _ => rfl) n sp B i 0 hi _ (by decide) rfl
theorem g_b1 (n : Nat) (sp : List Value) (B : Nat → Buf) (i : Nat) (hi : i < n) : Gets (bufR n sp B) (i * 2 + 1) (.slice (B i).a (B i).n (B i).c) := rowF_get 2 (fun _ => rfl) n sp B i 1 hi _ (by decide) rfl
theorem s_c1 (n : Nat) (sp : List Value) (C : Nat → Cls) (i : Nat) (a : Option Addr) (l : List Int) (c : Nat) (hi : i < n) : Sets (claR n sp C) (i * 3 + 1) (.slice a l.length c) (claR n sp (updF C i ⟨(C i).size, a, c, l⟩)) := rowF_set 3 (fun _ => rfl) n sp C i 1 hi _ _ (by decide) rfl
theorem s_b1 (n : Nat) (sp : List Value) (B : Nat → Buf) (i : Nat) (a : Option Addr) (k c : Nat) (hi : i < n) : Sets (bufR n sp B) (i * 2 + 1) (.slice a k c) (bufR n sp (updF B i ⟨(B i).cls, a, k, c⟩)) := rowF_set 2 (fun _ => rfl) n sp B i 1 hi _ _ (by decide) rfl


/-- The Pool's own row. -/
abbrev HG (p cb nc cc bb nb bc ab na : Nat) : HP := row p 94 [.slice (some ⟨cb, 0, none⟩) nc cc, .slice (some ⟨bb, 0, none⟩) nb bc, .slice (some ⟨ab, 0, none⟩) na na]
abbrev CG (cb nc : Nat) (sp : List Value) (C : Nat → Cls) : HP := row cb 98 (claR nc sp C)
abbrev BG (bb nb : Nat) (sp : List Value) (B : Nat → Buf) : HP := row bb 101 (bufR nb sp B)

theorem leaseG (p cb nc cc bb nb bc ab na : Nat) (sp sq : List Value) (C : Nat → Cls) (B : Nat → Buf) (b : Nat) (hb : b < nb) (hk : (B b).cls < nc) (hnb : nb ≤ 100000) (hnc : nc ≤ 100) : Does Try.prog 42 [.pointer (some ⟨p, 0, none⟩), .int .i64 (b : Nat)] [HG p cb nc cc bb nb bc ab na, CG cb nc sp C, BG bb nb sq B]
    (Ret (.agg #[.int .i64 (b : Nat), .int .i64 ((B b).cls : Nat), .int .i64 (C (B b).cls).size]) [HG p cb nc cc bb nb bc ab na, CG cb nc sp C, BG bb nb sq B]) := by
  (focus
    refine Xg.spec_of Go.Proofs.Try.func42 rfl Go.Proofs.Try.ntmps42 fun g F => ?_)
  (focus
    refine Xg.at_seq ?_
    refine Xg.at_region ?_
    refine Xg.ops_op (by kernel_rfl) (Xg.opx_new 3 [iv 0, iv 0, iv 0] (by kernel_rfl) (by kernel_rfl) fun xb1 => ?_)
    refine Xg.ops_nil ?_
    refine Xg.at_seq ?_
    refine Xg.at_region ?_
    refine Xg.ops_op (by kernel_rfl) (Xg.opx_pure ((pv p 0)) rfl (fun _ => by kernel_rfl) ?_)
    refine Xg.ops_op (by kernel_rfl) (Xg.opx_pure ((pv p 0)) rfl (fun _ => by kernel_rfl) ?_)
    refine Xg.ops_op (by kernel_rfl) (Xg.opx_pure ((pv p 1)) rfl (fun _ => by kernel_rfl) ?_)
    refine Xg.ops_op (by kernel_rfl) (Xg.opx_load (b := p) (off := ((1 : Nat))) 1 (Value.slice (some (Addr.mk bb (0 : Nat) none)) nb bc) rfl (by kernel_rfl) (by kernel_rfl) (by kernel_rfl) ?_)
    refine Xg.ops_op (by kernel_rfl) (Xg.opx_pure ((iv (↑b : Int))) rfl (fun _ => by kernel_rfl) ?_)
    refine Xg.ops_op (by kernel_rfl) (Xg.opx_run (.pointer (some (Addr.mk bb (b * (2 : Nat)) none))) rfl (Xg.run_ix_slice' (elem := 101) (b := bb) (off := ((0 : Nat))) (len := nb) (cap := bc) (kd := .i64) (e := ((↑b : Int))) 2 b (b * (2 : Nat)) (by kernel_rfl) (by kernel_rfl) (by kernel_rfl) (by kernel_rfl) rfl (by omega) (by omega)) ?_)
    refine Xg.ops_op (by kernel_rfl) (Xg.opx_pure ((Value.pointer (some (Addr.mk bb (b * (2 : Nat)) none)))) rfl (fun _ => by kernel_rfl) ?_)
    refine Xg.ops_op (by kernel_rfl) (Xg.opx_load (b := bb) (off := (b * (2 : Nat))) 3 (iv (↑(B b).cls : Int)) rfl (by kernel_rfl) (@Go.Proofs.Ytmplimmcjdkhlaa.g_b0 (nb) (sq) (B) (b) (by omega)) (by kernel_rfl) ?_)
    refine Xg.ops_op (by kernel_rfl) (Xg.opx_pure ((iv (↑(B b).cls : Int))) rfl (fun _ => by kernel_rfl) ?_)
    refine Xg.ops_nil ?_
    refine Xg.at_seq ?_
    refine Xg.at_region ?_
    refine Xg.ops_op (by kernel_rfl) (Xg.opx_pure ((iv (↑b : Int))) rfl (fun _ => by kernel_rfl) ?_)
    refine Xg.ops_op (by kernel_rfl) (Xg.opx_pure ((iv (↑(B b).cls : Int))) rfl (fun _ => by kernel_rfl) ?_)
    refine Xg.ops_op (by kernel_rfl) (Xg.opx_pure ((pv p 0)) rfl (fun _ => by kernel_rfl) ?_)
    refine Xg.ops_op (by kernel_rfl) (Xg.opx_pure ((pv p 0)) rfl (fun _ => by kernel_rfl) ?_)
    refine Xg.ops_op (by kernel_rfl) (Xg.opx_pure ((pv p 0)) rfl (fun _ => by kernel_rfl) ?_)
    refine Xg.ops_op (by kernel_rfl) (Xg.opx_load (b := p) (off := ((0 : Nat))) 1 (Value.slice (some (Addr.mk cb (0 : Nat) none)) nc cc) rfl (by kernel_rfl) (by kernel_rfl) (by kernel_rfl) ?_)
    refine Xg.ops_op (by kernel_rfl) (Xg.opx_pure ((iv (↑(B b).cls : Int))) rfl (fun _ => by kernel_rfl) ?_)
    refine Xg.ops_op (by kernel_rfl) (Xg.opx_run (.pointer (some (Addr.mk cb ((B b).cls * (3 : Nat)) none))) rfl (Xg.run_ix_slice' (elem := 98) (b := cb) (off := ((0 : Nat))) (len := nc) (cap := cc) (kd := .i64) (e := ((↑(B b).cls : Int))) 3 ((B b).cls) ((B b).cls * (3 : Nat)) (by kernel_rfl) (by kernel_rfl) (by kernel_rfl) (by kernel_rfl) rfl (by omega) (by omega)) ?_)
    refine Xg.ops_op (by kernel_rfl) (Xg.opx_pure ((Value.pointer (some (Addr.mk cb ((B b).cls * (3 : Nat)) none)))) rfl (fun _ => by kernel_rfl) ?_)
    refine Xg.ops_op (by kernel_rfl) (Xg.opx_load (b := cb) (off := ((B b).cls * (3 : Nat))) 2 (iv (C (B b).cls).size) rfl (by kernel_rfl) (@Go.Proofs.Ytmplimmcjdkhlaa.g_c0 (nc) (sp) (C) (((B b).cls)) (by omega)) (by kernel_rfl) ?_)
    refine Xg.ops_op (by kernel_rfl) (Xg.opx_pure ((Value.agg #[iv (↑b : Int), iv (↑(B b).cls : Int), iv (C (B b).cls).size])) rfl (fun _ => by kernel_rfl) ?_)
    refine Xg.ops_op (by kernel_rfl) (Xg.opx_storen 3 (off := 0) 0 [iv (↑b : Int), iv (↑(B b).cls : Int), iv (C (B b).cls).size] (by kernel_rfl) rfl (by kernel_rfl) (by kernel_rfl) rfl (by kernel_rfl) (Nat.le_of_ble_eq_true (by kernel_rfl)) ?_)
    refine Xg.ops_nil ?_
    refine Xg.at_ret_feed (v := (Value.agg #[iv (↑b : Int), iv (↑(B b).cls : Int), iv (C (B b).cls).size])) [(Addr.mk xb1 (0 : Nat) none), (Addr.mk xb1 (1 : Nat) none), (Addr.mk xb1 (2 : Nat) none)] [iv (↑b : Int), iv (↑(B b).cls : Int), iv (C (B b).cls).size] [1, 2, 3] [HG p cb nc cc bb nb bc ab na, CG cb nc sp C, BG bb nb sq B] Go.Proofs.Try.func42 (by kernel_rfl) (Xg.cells_cons (b := xb1) (off := 0) 0 rfl (by kernel_rfl) (Xg.cells_cons (b := xb1) (off := 1) 0 rfl (by kernel_rfl) (Xg.cells_cons (b := xb1) (off := 2) 0 rfl (by kernel_rfl) Xg.cells_nil))) (by kernel_rfl) (by kernel_rfl) ?_
    exact ⟨by kernel_rfl, by kernel_rfl⟩)
end Go.Proofs.Ytmplimmcjdkhlaa

/- The arena package, any Pool: places in lists, Contains, of. -/
namespace Go.Proofs.Ytmplimmcjdkhlaa
open Go.Sl Go.Xg
set_option linter.unusedVariables false
set_option linter.unusedSimpArgs false
set_option linter.unnecessarySimpa false
set_option maxHeartbeats 4000000
set_option maxRecDepth 100000

/-- The first place where 'p' holds; -1: nowhere. -/
def fidx {α : Type} (p : α → Bool) : List α → Int
  | [] => -1
  | x :: l => if p x then 0 else (if fidx p l < 0 then -1 else fidx p l + 1)
section
variable {α : Type} {p : α → Bool}
theorem fidx_ge : ∀ l : List α, -1 ≤ fidx p l ∧ fidx p l < l.length
  | [] => by simp [fidx]
  | x :: l => by
    have := fidx_ge l
    unfold fidx
    split
    · simp
    · split <;> simp <;> omega
theorem fidx_no : ∀ l : List α, (∀ x ∈ l, p x = false) → fidx p l = -1
  | [], _ => rfl
  | x :: l, h => by
    unfold fidx
    rw [if_neg (by simp [h x (.head _)]), fidx_no l fun y hy => h y (.tail _ hy)]
    simp
theorem fidx_at (d : α) : ∀ (l : List α) (i : Nat), i < l.length → (∀ j, j < i → p (l.getD j d) = false) → p (l.getD i d) = true → fidx p l = i
  | [], i, h, _, _ => by simp at h
  | x :: l, 0, _, _, h => by unfold fidx; rw [if_pos (by simpa using h)]; rfl
  | x :: l, i + 1, hi, h, h1 => by
    have h0 : p x = false := by simpa using h 0 (by omega)
    have := fidx_at d l i (by simpa using hi) (fun j hj => by simpa using h (j + 1) (by omega)) (by simpa using h1)
    unfold fidx
    rw [if_neg (by simp [h0]), if_neg (by omega), this]
    simp
theorem fidx_end (d : α) (l : List α) (h : ∀ j, j < l.length → p (l.getD j d) = false) : fidx p l = -1 := fidx_no l fun x hx => by
  obtain ⟨i, hi, e⟩ := List.getElem_of_mem hx
  have := h i hi
  rw [List.getD_eq_getElem?_getD, List.getElem?_eq_getElem hi, e] at this
  exact this
end

/-- slices.Index at []int. -/
theorem index_d (a : Option Addr) (c : Nat) (s : List Int) (v : Int) : Does Try.prog 45 [.slice a s.length c, .int .i64 v] [ints 3 .i64 a c s] (Ret (.int .i64 (fidx (fun x => v == x) s)) [ints 3 .i64 a c s]) := by
  (focus
    refine Xg.spec_of Go.Proofs.Try.func45 rfl Go.Proofs.Try.ntmps45 fun g F => ?_)
  obtain ⟨n, hn⟩ : ∃ n, fidx (fun x => v == x) s = n := ⟨_, rfl⟩
  rw [hn]
  refine Xg.at_own 0 rfl fun h1 h2 _ _ => ?_
  have hm : s.length ≤ maxLen := Nat.le_trans h1 h2
  unfold maxLen at hm
  clear h1 h2
  (focus
    refine Xg.at_seq ?_
    refine Xg.at_region ?_
    refine Xg.ops_op (by kernel_rfl) (Xg.opx_pure ((iv 0)) rfl (fun _ => by kernel_rfl) ?_)
    refine Xg.ops_nil ?_
    refine Xg.at_seq ?_
    refine Xg.at_seq ?_
    refine Xg.at_region ?_
    refine Xg.ops_op (by kernel_rfl) (Xg.opx_pure ((Value.slice a s.length c)) rfl (fun _ => by kernel_rfl) ?_)
    refine Xg.ops_op (by kernel_rfl) (Xg.opx_pure ((iv (↑s.length : Int))) rfl (fun _ => by kernel_rfl) ?_)
    refine Xg.ops_op (by kernel_rfl) (Xg.opx_pure ((iv 0)) rfl (fun _ => by kernel_rfl) ?_)
    refine Xg.ops_nil ?_
    refine Xg.at_block ?_)
  (focus
    refine Xg.at_rounds_inv (α := (Nat) × (Nat → Value)) (fun x => ((fun i => i ≤ s.length ∧ ∀ j, j < i → (v == s.getD j 0) = false) : (Nat) → Prop) x.1) (fun x => ((fun i => s.length - i) : (Nat) → Nat) x.1) (fun x => Xg.headT [Value.slice a s.length c, iv v, tu, tu, iv 0, tu, Value.slice a s.length c, iv (↑s.length : Int), iv 0, tu, tu, tu, tu, tu, tu, tu, tu, tu, tu] [4, 5, 9, 10, 11, 12, 13, 14, 15, 16, 17, 18] (((fun i => [(8, .int .i64 (i : Nat))]) : (Nat) → List (Nat × Go.Value)) x.1) x.2) (fun x => ((fun i => [ints 3 .i64 a c s]) : (Nat) → List Go.Sl.HP) x.1) ((0), fun j9 => ([Value.slice a s.length c, iv v, tu, tu, iv 0, tu, Value.slice a s.length c, iv (↑s.length : Int), iv 0, tu, tu, tu, tu, tu, tu, tu, tu, tu, tu] : List Value).getD j9 undef) (by kernel_rfl) (by kernel_rfl) ?_ ?_)
  · exact ⟨Nat.zero_le _, fun j hj => absurd hj (Nat.not_lt_zero _)⟩
  rintro ⟨i, J⟩ ⟨hi, hI⟩ ih
  dsimp only at hi hI
  (focus
    refine Xg.At.same (T' := [Value.slice a s.length c, iv v, tu, tu, J 4, J 5, Value.slice a s.length c, iv (↑s.length : Int), iv (↑i : Int), J 9, J 10, J 11, J 12, J 13, J 14, J 15, J 16, J 17, J 18]) (L' := [ints (3 : TypeId) IntKind.i64 a c s]) (by kernel_rfl) rfl ?_)
  by_cases hlt : i < s.length
  · have hv : (v == s.getD i 0) = decide (v = s.getD i 0) := rfl
    by_cases he : v = s.getD i 0
    · have := fidx_at 0 s i hlt hI (hv.trans (decide_eq_true he))
      rw [hn] at this
      subst this
      clear ih
      (focus
        refine Xg.at_seq ?_
        refine Xg.at_region ?_
        refine Xg.ops_op (by kernel_rfl) (Xg.opx_pure (.bool (decide ((((↑i : Int)) : Int) < ((↑s.length : Int))))) rfl (fun _ => by kernel_rfl) ?_)
        refine Xg.ops_nil ?_
        refine Xg.at_seq ?_
        refine Xg.at_true (t := decide (((↑i : Int) < (↑s.length : Int)))) (by kernel_rfl) (decide_eq_true (by omega)) ?_
        refine Xg.at_skip ?_
        refine Xg.at_seq ?_
        refine Xg.at_block ?_
        refine Xg.at_seq ?_
        refine Xg.at_region ?_
        refine Xg.ops_op (by kernel_rfl) (Xg.opx_pure ((iv (↑i : Int))) rfl (fun _ => by kernel_rfl) ?_)
        refine Xg.ops_op (by kernel_rfl) (Xg.opx_pure ((iv (↑i : Int))) rfl (fun _ => by kernel_rfl) ?_)
        refine Xg.ops_nil ?_
        refine Xg.at_seq ?_
        refine Xg.at_region ?_
        refine Xg.ops_op (by kernel_rfl) (Xg.opx_pure ((iv v)) rfl (fun _ => by kernel_rfl) ?_)
        refine Xg.ops_op (by kernel_rfl) (Xg.opx_pure ((Value.slice a s.length c)) rfl (fun _ => by kernel_rfl) ?_)
        refine Xg.ops_op (by kernel_rfl) (Xg.opx_pure ((iv (↑i : Int))) rfl (fun _ => by kernel_rfl) ?_)
        refine Xg.ops_op (by kernel_rfl) (Xg.opx_ix_own (elem := 3) (kd := .i64) (e := ((↑i : Int))) 0 1 i i rfl (by kernel_rfl) (by kernel_rfl) (by kernel_rfl) (by kernel_rfl) rfl (by omega) (by omega) ?_)
        refine Xg.ops_op (by kernel_rfl) (Xg.opx_load_own (a := a) (off := i) 0 (iv (s.getD i (0 : Int))) rfl (by kernel_rfl) (Xg.get_ints (by omega)) (by kernel_rfl) ?_)
        refine Xg.ops_op (by kernel_rfl) (Xg.opx_pure (.bool (decide ((v : Int) = (s.getD i (0 : Int))))) rfl (fun _ => by kernel_rfl) ?_)
        refine Xg.ops_nil ?_
        refine Xg.at_true (t := decide ((v = s.getD i (0 : Int)))) (by kernel_rfl) (decide_eq_true (by omega)) ?_
        refine Xg.at_seq ?_
        refine Xg.at_region ?_
        refine Xg.ops_op (by kernel_rfl) (Xg.opx_pure ((iv (↑i : Int))) rfl (fun _ => by kernel_rfl) ?_)
        refine Xg.ops_op (by kernel_rfl) (Xg.opx_pure ((iv (↑i : Int))) rfl (fun _ => by kernel_rfl) ?_)
        refine Xg.ops_nil ?_
        refine Xg.at_ret_ps (v := (iv (↑i : Int))) [0] [ints (3 : TypeId) IntKind.i64 a c s] Go.Proofs.Try.func45 (fun _ => by kernel_rfl) (by kernel_rfl) (by kernel_rfl) ?_
        exact ⟨by kernel_rfl, by kernel_rfl⟩)
    · (focus
        refine Xg.at_seq ?_
        refine Xg.at_region ?_
        refine Xg.ops_op (by kernel_rfl) (Xg.opx_pure (.bool (decide ((((↑i : Int)) : Int) < ((↑s.length : Int))))) rfl (fun _ => by kernel_rfl) ?_)
        refine Xg.ops_nil ?_
        refine Xg.at_seq ?_
        refine Xg.at_true (t := decide (((↑i : Int) < (↑s.length : Int)))) (by kernel_rfl) (decide_eq_true (by omega)) ?_
        refine Xg.at_skip ?_
        refine Xg.at_seq ?_
        refine Xg.at_block ?_
        refine Xg.at_seq ?_
        refine Xg.at_region ?_
        refine Xg.ops_op (by kernel_rfl) (Xg.opx_pure ((iv (↑i : Int))) rfl (fun _ => by kernel_rfl) ?_)
        refine Xg.ops_op (by kernel_rfl) (Xg.opx_pure ((iv (↑i : Int))) rfl (fun _ => by kernel_rfl) ?_)
        refine Xg.ops_nil ?_
        refine Xg.at_seq ?_
        refine Xg.at_region ?_
        refine Xg.ops_op (by kernel_rfl) (Xg.opx_pure ((iv v)) rfl (fun _ => by kernel_rfl) ?_)
        refine Xg.ops_op (by kernel_rfl) (Xg.opx_pure ((Value.slice a s.length c)) rfl (fun _ => by kernel_rfl) ?_)
        refine Xg.ops_op (by kernel_rfl) (Xg.opx_pure ((iv (↑i : Int))) rfl (fun _ => by kernel_rfl) ?_)
        refine Xg.ops_op (by kernel_rfl) (Xg.opx_ix_own (elem := 3) (kd := .i64) (e := ((↑i : Int))) 0 1 i i rfl (by kernel_rfl) (by kernel_rfl) (by kernel_rfl) (by kernel_rfl) rfl (by omega) (by omega) ?_)
        refine Xg.ops_op (by kernel_rfl) (Xg.opx_load_own (a := a) (off := i) 0 (iv (s.getD i (0 : Int))) rfl (by kernel_rfl) (Xg.get_ints (by omega)) (by kernel_rfl) ?_)
        refine Xg.ops_op (by kernel_rfl) (Xg.opx_pure (.bool (decide ((v : Int) = (s.getD i (0 : Int))))) rfl (fun _ => by kernel_rfl) ?_)
        refine Xg.ops_nil ?_
        refine Xg.at_false (t := decide ((v = s.getD i (0 : Int)))) (by kernel_rfl) (decide_eq_false (by omega)) ?_
        refine Xg.at_skip ?_
        refine Xg.at_inBlock ?_
        refine Xg.at_region ?_
        refine Xg.ops_op (by kernel_rfl) (Xg.opx_int .i64 (IntKind.wrap .i64 (((↑i : Int) + (1 : Int)))) rfl (fun _ => by kernel_rfl) (Xg.wrap_i64_in (by omega)) ?_)
        refine Xg.ops_op (by kernel_rfl) (Xg.opx_pure ((iv ((↑i : Int) + (1 : Int)))) rfl (fun _ => by kernel_rfl) ?_)
        refine Xg.ops_nil ?_
        refine Xg.at_inLoop ?_)
      (focus
        refine Xg.at_keep [0] (by kernel_rfl) ?_
        refine Xs.same ?_ (fun J9 => ih (((i + 1)), J9) ?_ ?_) (by kernel_rfl))
      · rfl
      · refine ⟨by dsimp only; omega, fun j hj => ?_⟩
        by_cases hj' : j = i
        · subst hj'; exact hv.trans (decide_eq_false he)
        · exact hI j (by omega)
      · dsimp only; omega
  · have := fidx_end 0 s (fun j hj => hI j (by omega))
    rw [hn] at this
    subst this
    clear ih
    (focus
      refine Xg.at_seq ?_
      refine Xg.at_region ?_
      refine Xg.ops_op (by kernel_rfl) (Xg.opx_pure (.bool (decide ((((↑i : Int)) : Int) < ((↑s.length : Int))))) rfl (fun _ => by kernel_rfl) ?_)
      refine Xg.ops_nil ?_
      refine Xg.at_seq ?_
      refine Xg.at_false (t := decide (((↑i : Int) < (↑s.length : Int)))) (by kernel_rfl) (decide_eq_false (by omega)) ?_
      refine Xg.at_exit rfl ?_
      refine Xg.at_seq ?_
      refine Xg.at_region ?_
      refine Xg.ops_op (by kernel_rfl) (Xg.opx_pure ((iv (-1))) rfl (fun _ => by kernel_rfl) ?_)
      refine Xg.ops_nil ?_
      refine Xg.at_ret_ps (v := (iv (-1))) [0] [ints (3 : TypeId) IntKind.i64 a c s] Go.Proofs.Try.func45 (fun _ => by kernel_rfl) (by kernel_rfl) (by kernel_rfl) ?_
      exact ⟨by kernel_rfl, by kernel_rfl⟩)
/-- slices.Contains at []int. -/
theorem containsG (a : Option Addr) (c : Nat) (s : List Int) (v : Int) : Does Try.prog 66 [.slice a s.length c, .int .i64 v] [ints 3 .i64 a c s] (Ret (.bool (decide (0 ≤ fidx (fun x => v == x) s))) [ints 3 .i64 a c s]) := by
  have h := index_d a c s v
  (focus
    refine Xg.spec_of Go.Proofs.Try.func66 rfl Go.Proofs.Try.ntmps66 fun g F => ?_)
  obtain ⟨n, hn⟩ : ∃ n, fidx (fun x => v == x) s = n := ⟨_, rfl⟩
  rw [hn] at h ⊢
  (focus
    refine Xg.at_seq ?_
    refine Xg.at_region ?_
    refine Xg.ops_op (by kernel_rfl) (Xg.opx_pure ((Value.bool false)) rfl (fun _ => by kernel_rfl) ?_)
    refine Xg.ops_nil ?_
    refine Xg.at_seq ?_
    refine Xg.at_region ?_
    refine Xg.ops_op (by kernel_rfl) (Xg.opx_pure ((Value.slice a s.length c)) rfl (fun _ => by kernel_rfl) ?_)
    refine Xg.ops_op (by kernel_rfl) (Xg.opx_pure ((iv v)) rfl (fun _ => by kernel_rfl) ?_)
    refine Xg.ops_op (by kernel_rfl) (Xg.opx_call1' [0] [ints (3 : TypeId) IntKind.i64 a c s] (fun _ => by kernel_rfl) (@h ) (by kernel_rfl) (by kernel_rfl) (by kernel_rfl) ?_)
    refine Xg.ops_op (by kernel_rfl) (Xg.opx_pure (.bool (decide ((n : Int) ≥ ((0 : Int))))) rfl (fun _ => by kernel_rfl) ?_)
    refine Xg.ops_op (by kernel_rfl) (Xg.opx_pure ((Value.bool (decide (n ≥ (0 : Int))))) rfl (fun _ => by kernel_rfl) ?_)
    refine Xg.ops_nil ?_
    refine Xg.at_ret_ps (v := (Value.bool (decide (n ≥ (0 : Int))))) [0] [ints (3 : TypeId) IntKind.i64 a c s] Go.Proofs.Try.func66 (fun _ => by kernel_rfl) (by kernel_rfl) (by kernel_rfl) ?_
    exact ⟨by kernel_rfl, by kernel_rfl⟩)

end Go.Proofs.Ytmplimmcjdkhlaa

/- The arena package, any Pool: spans, the free list's take. -/
namespace Go.Proofs.Ytmplimmcjdkhlaa
open Go.Sl Go.Xg
set_option linter.unusedVariables false
set_option linter.unusedSimpArgs false
set_option linter.unnecessarySimpa false
set_option maxHeartbeats 4000000
set_option maxRecDepth 100000


section
variable (p cb nc cc bb nb bc ab na : Nat) (u : Nat → Option Nat) (id r : Nat) (hid : id < na) (hna : na ≤ 64) (hu : u id = some r) (sq : List Value) (B : Nat → Buf) (q us : Int) (ta : Option Addr) (tc : Nat) (tk : List Int)
include hid hna hu
theorem spanG_ok (b at0 n : Nat) (hb : 0 ≤ fidx (fun x => ((b : Nat) : Int) == x) tk) (hbn : b < nb) (hn : at0 + n ≤ (B b).n) (hc0 : (B b).n ≤ (B b).c) (hc1 : (B b).c ≤ 1000000) (hnb : nb ≤ 100000) : Does Try.prog 43 [.pointer (some ⟨p, 0, none⟩), .int .i64 (id : Nat), .int .i64 (b : Nat), .int .i64 (at0 : Nat), .int .i64 (n : Nat)] [HG p cb nc cc bb nb bc ab na, PtP ab na u, R2 r q us ta tk.length tc, I2 ta tc tk, BG bb nb sq B]
    (Ret (.tuple #[.slice (Xg.subA (B b).a (at0 + n) at0 1) n n, .int .i64 0]) [HG p cb nc cc bb nb bc ab na, PtP ab na u, R2 r q us ta tk.length tc, I2 ta tc tk, BG bb nb sq B]) := by
  have ho := of_some p ab na id r (.slice (some ⟨cb, 0, none⟩) nc cc) (.slice (some ⟨bb, 0, none⟩) nb bc) u hid hna hu
  have hc := containsG ta tc tk b
  rw [decide_eq_true hb] at hc
  (focus
    refine Xg.spec_of Go.Proofs.Try.func43 rfl Go.Proofs.Try.ntmps43 fun g F => ?_)
  (focus
    refine Xg.at_seq ?_
    refine Xg.at_region ?_
    refine Xg.ops_op (by kernel_rfl) (Xg.opx_pure ((Value.slice none (0 : Nat) (0 : Nat))) rfl (fun _ => by kernel_rfl) ?_)
    refine Xg.ops_op (by kernel_rfl) (Xg.opx_pure ((iv 0)) rfl (fun _ => by kernel_rfl) ?_)
    refine Xg.ops_nil ?_
    refine Xg.at_seq ?_
    refine Xg.at_region ?_
    refine Xg.ops_op (by kernel_rfl) (Xg.opx_pure ((pv p 0)) rfl (fun _ => by kernel_rfl) ?_)
    refine Xg.ops_op (by kernel_rfl) (Xg.opx_pure ((iv (↑id : Int))) rfl (fun _ => by kernel_rfl) ?_)
    refine Xg.ops_op (by kernel_rfl) (Xg.opx_call1' [0, 1] [HdP p ab na (Value.slice (some (Addr.mk cb (0 : Nat) none)) nc cc) (Value.slice (some (Addr.mk bb (0 : Nat) none)) nb bc), PtP ab na u, R2 r q us ta tk.length tc, I2 ta tc tk, BG bb nb sq B] (fun _ => by kernel_rfl) (@ho ) (by kernel_rfl) (by kernel_rfl) (by kernel_rfl) ?_)
    refine Xg.ops_op (by kernel_rfl) (Xg.opx_pure ((pv r 0)) rfl (fun _ => by kernel_rfl) ?_)
    refine Xg.ops_nil ?_
    refine Xg.at_seq ?_
    refine Xg.at_block ?_
    refine Xg.at_seq ?_
    refine Xg.at_region ?_
    refine Xg.ops_op (by kernel_rfl) (Xg.opx_pure ((pv r 0)) rfl (fun _ => by kernel_rfl) ?_)
    refine Xg.ops_op (by kernel_rfl) (Xg.opx_pure ((Value.bool false)) rfl (fun _ => by kernel_rfl) ?_)
    refine Xg.ops_op (by kernel_rfl) (Xg.opx_pure ((Value.bool false)) rfl (fun _ => by kernel_rfl) ?_)
    refine Xg.ops_nil ?_
    refine Xg.at_false (t := false) (by kernel_rfl) rfl ?_
    refine Xg.at_seq ?_
    refine Xg.at_region ?_
    refine Xg.ops_op (by kernel_rfl) (Xg.opx_pure ((pv r 0)) rfl (fun _ => by kernel_rfl) ?_)
    refine Xg.ops_op (by kernel_rfl) (Xg.opx_pure ((pv r 0)) rfl (fun _ => by kernel_rfl) ?_)
    refine Xg.ops_op (by kernel_rfl) (Xg.opx_pure ((pv r 2)) rfl (fun _ => by kernel_rfl) ?_)
    refine Xg.ops_op (by kernel_rfl) (Xg.opx_load (b := r) (off := ((2 : Nat))) 2 (Value.slice ta tk.length tc) rfl (by kernel_rfl) (by kernel_rfl) (by kernel_rfl) ?_)
    refine Xg.ops_op (by kernel_rfl) (Xg.opx_pure ((iv (↑b : Int))) rfl (fun _ => by kernel_rfl) ?_)
    refine Xg.ops_op (by kernel_rfl) (Xg.opx_call1' [3] [ints (3 : TypeId) IntKind.i64 ta tc tk, HdP p ab na (Value.slice (some (Addr.mk cb (0 : Nat) none)) nc cc) (Value.slice (some (Addr.mk bb (0 : Nat) none)) nb bc), PtP ab na u, R2 r q us ta tk.length tc, BG bb nb sq B] (fun _ => by kernel_rfl) (@hc ) (by kernel_rfl) (by kernel_rfl) (by kernel_rfl) ?_)
    refine Xg.ops_op (by kernel_rfl) (Xg.opx_pure (.bool false) rfl (fun _ => by kernel_rfl) ?_)
    refine Xg.ops_op (by kernel_rfl) (Xg.opx_pure ((Value.bool false)) rfl (fun _ => by kernel_rfl) ?_)
    refine Xg.ops_nil ?_
    refine Xg.at_false (t := false) (by kernel_rfl) rfl ?_
    refine Xg.at_skip ?_
    refine Xg.at_inBlock ?_
    refine Xg.at_seq ?_
    refine Xg.at_region ?_
    refine Xg.ops_op (by kernel_rfl) (Xg.opx_pure ((pv p 0)) rfl (fun _ => by kernel_rfl) ?_)
    refine Xg.ops_op (by kernel_rfl) (Xg.opx_pure ((pv p 0)) rfl (fun _ => by kernel_rfl) ?_)
    refine Xg.ops_op (by kernel_rfl) (Xg.opx_pure ((pv p 1)) rfl (fun _ => by kernel_rfl) ?_)
    refine Xg.ops_op (by kernel_rfl) (Xg.opx_load (b := p) (off := ((1 : Nat))) 1 (Value.slice (some (Addr.mk bb (0 : Nat) none)) nb bc) rfl (by kernel_rfl) (by kernel_rfl) (by kernel_rfl) ?_)
    refine Xg.ops_op (by kernel_rfl) (Xg.opx_pure ((iv (↑b : Int))) rfl (fun _ => by kernel_rfl) ?_)
    refine Xg.ops_op (by kernel_rfl) (Xg.opx_run (.pointer (some (Addr.mk bb (b * (2 : Nat)) none))) rfl (Xg.run_ix_slice' (elem := 101) (b := bb) (off := ((0 : Nat))) (len := nb) (cap := bc) (kd := .i64) (e := ((↑b : Int))) 2 b (b * (2 : Nat)) (by kernel_rfl) (by kernel_rfl) (by kernel_rfl) (by kernel_rfl) rfl (by omega) (by omega)) ?_)
    refine Xg.ops_op (by kernel_rfl) (Xg.opx_pure ((Value.pointer (some (Addr.mk bb (b * (2 : Nat) + (1 : Nat)) none)))) rfl (fun _ => by kernel_rfl) ?_)
    refine Xg.ops_op (by kernel_rfl) (Xg.opx_load (b := bb) (off := (b * (2 : Nat) + (1 : Nat))) 4 (Value.slice (B b).a (B b).n (B b).c) rfl (by kernel_rfl) (@Go.Proofs.Ytmplimmcjdkhlaa.g_b1 (nb) (sq) (B) (b) (by omega)) (by kernel_rfl) ?_)
    refine Xg.ops_op (by kernel_rfl) (Xg.opx_pure ((Value.slice (B b).a (B b).n (B b).c)) rfl (fun _ => by kernel_rfl) ?_)
    refine Xg.ops_nil ?_
    refine Xg.at_seq ?_
    refine Xg.at_seq ?_
    refine Xg.at_region ?_
    refine Xg.ops_op (by kernel_rfl) (Xg.opx_pure ((iv (↑at0 : Int))) rfl (fun _ => by kernel_rfl) ?_)
    refine Xg.ops_op (by kernel_rfl) (Xg.opx_pure (.bool (decide ((((↑at0 : Int)) : Int) < ((0 : Int))))) rfl (fun _ => by kernel_rfl) ?_)
    refine Xg.ops_op (by kernel_rfl) (Xg.opx_pure ((Value.bool (decide ((↑at0 : Int) < (0 : Int))))) rfl (fun _ => by kernel_rfl) ?_)
    refine Xg.ops_op (by kernel_rfl) (Xg.opx_pure ((iv (↑n : Int))) rfl (fun _ => by kernel_rfl) ?_)
    refine Xg.ops_op (by kernel_rfl) (Xg.opx_pure (.bool (decide ((((↑n : Int)) : Int) < ((0 : Int))))) rfl (fun _ => by kernel_rfl) ?_)
    refine Xg.ops_flag (j := 38) (c := (decide ((↑at0 : Int) < (0 : Int)))) (by kernel_rfl) (fun xh1 => absurd (of_decide_eq_true xh1) (by omega)) (fun _ => ?_)
    refine Xg.ops_flag (j := 40) (c := (decide ((↑n : Int) < (0 : Int)))) (by kernel_rfl) (fun xh1 => absurd (of_decide_eq_true xh1) (by omega)) (fun _ => ?_)
    refine Xg.ops_op (by kernel_rfl) (Xg.opx_pure ((Value.bool false)) rfl (fun _ => by kernel_rfl) ?_)
    refine Xg.ops_op (by kernel_rfl) (Xg.opx_pure ((Value.bool false)) rfl (fun _ => by kernel_rfl) ?_)
    refine Xg.ops_op (by kernel_rfl) (Xg.opx_pure ((iv (↑at0 : Int))) rfl (fun _ => by kernel_rfl) ?_)
    refine Xg.ops_op (by kernel_rfl) (Xg.opx_pure ((Value.slice (B b).a (B b).n (B b).c)) rfl (fun _ => by kernel_rfl) ?_)
    refine Xg.ops_op (by kernel_rfl) (Xg.opx_pure ((iv (↑(B b).n : Int))) rfl (fun _ => by kernel_rfl) ?_)
    refine Xg.ops_op (by kernel_rfl) (Xg.opx_pure (.bool (decide ((((↑at0 : Int)) : Int) > ((↑(B b).n : Int))))) rfl (fun _ => by kernel_rfl) ?_)
    refine Xg.ops_flag (j := 46) (c := (decide ((↑at0 : Int) > (↑(B b).n : Int)))) (by kernel_rfl) (fun xh1 => absurd (of_decide_eq_true xh1) (by omega)) (fun _ => ?_)
    refine Xg.ops_op (by kernel_rfl) (Xg.opx_pure ((Value.bool false)) rfl (fun _ => by kernel_rfl) ?_)
    refine Xg.ops_op (by kernel_rfl) (Xg.opx_pure ((Value.bool false)) rfl (fun _ => by kernel_rfl) ?_)
    refine Xg.ops_op (by kernel_rfl) (Xg.opx_pure ((iv (↑n : Int))) rfl (fun _ => by kernel_rfl) ?_)
    refine Xg.ops_op (by kernel_rfl) (Xg.opx_pure ((Value.slice (B b).a (B b).n (B b).c)) rfl (fun _ => by kernel_rfl) ?_)
    refine Xg.ops_op (by kernel_rfl) (Xg.opx_pure ((iv (↑(B b).n : Int))) rfl (fun _ => by kernel_rfl) ?_)
    refine Xg.ops_op (by kernel_rfl) (Xg.opx_pure ((iv (↑at0 : Int))) rfl (fun _ => by kernel_rfl) ?_)
    refine Xg.ops_op (by kernel_rfl) (Xg.opx_int .i64 (IntKind.wrap .i64 (((↑(B b).n : Int) - (↑at0 : Int)))) rfl (fun _ => by kernel_rfl) (Xg.wrap_i64_in (by omega)) ?_)
    refine Xg.ops_op (by kernel_rfl) (Xg.opx_pure (.bool (decide ((((↑n : Int)) : Int) > ((↑(B b).n : Int) - (↑at0 : Int))))) rfl (fun _ => by kernel_rfl) ?_)
    refine Xg.ops_flag (j := 54) (c := (decide ((↑n : Int) > (↑(B b).n : Int) - (↑at0 : Int)))) (by kernel_rfl) (fun xh1 => absurd (of_decide_eq_true xh1) (by omega)) (fun _ => ?_)
    refine Xg.ops_op (by kernel_rfl) (Xg.opx_pure ((Value.bool false)) rfl (fun _ => by kernel_rfl) ?_)
    refine Xg.ops_nil ?_
    refine Xg.at_false (t := false) (by kernel_rfl) rfl ?_
    refine Xg.at_skip ?_
    refine Xg.at_seq ?_
    refine Xg.at_region ?_
    refine Xg.ops_op (by kernel_rfl) (Xg.opx_pure ((Value.slice (B b).a (B b).n (B b).c)) rfl (fun _ => by kernel_rfl) ?_)
    refine Xg.ops_op (by kernel_rfl) (Xg.opx_pure ((iv (↑at0 : Int))) rfl (fun _ => by kernel_rfl) ?_)
    refine Xg.ops_op (by kernel_rfl) (Xg.opx_pure ((iv (↑at0 : Int))) rfl (fun _ => by kernel_rfl) ?_)
    refine Xg.ops_op (by kernel_rfl) (Xg.opx_pure ((iv (↑n : Int))) rfl (fun _ => by kernel_rfl) ?_)
    refine Xg.ops_op (by kernel_rfl) (Xg.opx_int .i64 (IntKind.wrap .i64 (((↑at0 : Int) + (↑n : Int)))) rfl (fun _ => by kernel_rfl) (Xg.wrap_i64_in (by omega)) ?_)
    refine Xg.ops_op (by kernel_rfl) (Xg.opx_pure ((iv (↑at0 : Int))) rfl (fun _ => by kernel_rfl) ?_)
    refine Xg.ops_op (by kernel_rfl) (Xg.opx_pure ((iv (↑n : Int))) rfl (fun _ => by kernel_rfl) ?_)
    refine Xg.ops_op (by kernel_rfl) (Xg.opx_int .i64 (IntKind.wrap .i64 (((↑at0 : Int) + (↑n : Int)))) rfl (fun _ => by kernel_rfl) (Xg.wrap_i64_in (by omega)) ?_)
    refine Xg.ops_op (by kernel_rfl) (Xg.opx_run (.slice (Xg.subA ((B b).a) (((↑at0 : Int) + (↑n : Int)).toNat) at0 1) ((((↑at0 : Int) + (↑n : Int)).toNat) - at0) ((((↑at0 : Int) + (↑n : Int)).toNat) - at0)) rfl (Xg.run_sl3 (elem := 5) (a := ((B b).a)) (c := ((B b).c)) (len := ((B b).n)) (k1 := .i64) (k2 := .i64) (k3 := .i64) (e1 := ((↑at0 : Int))) (e2 := ((↑at0 : Int) + (↑n : Int))) (e3 := ((↑at0 : Int) + (↑n : Int))) 1 at0 (((↑at0 : Int) + (↑n : Int)).toNat) (((↑at0 : Int) + (↑n : Int)).toNat) (by kernel_rfl) (by kernel_rfl) (by kernel_rfl) (by kernel_rfl) (by kernel_rfl) (by kernel_rfl) rfl (by omega) (by omega) (by omega) (by omega) (by omega)) ?_)
    refine Xg.ops_op (by kernel_rfl) (Xg.opx_pure ((Value.slice (subA (B b).a ((↑at0 : Int) + (↑n : Int)).toNat at0 (1 : Nat)) (((↑at0 : Int) + (↑n : Int)).toNat - at0) (((↑at0 : Int) + (↑n : Int)).toNat - at0))) rfl (fun _ => by kernel_rfl) ?_)
    refine Xg.ops_op (by kernel_rfl) (Xg.opx_pure ((iv 0)) rfl (fun _ => by kernel_rfl) ?_)
    refine Xg.ops_nil ?_
    refine Xg.at_ret_ps (v := (Value.tuple #[Value.slice (subA (B b).a ((↑at0 : Int) + (↑n : Int)).toNat at0 (1 : Nat)) (((↑at0 : Int) + (↑n : Int)).toNat - at0) (((↑at0 : Int) + (↑n : Int)).toNat - at0), iv 0])) [1, 2, 3, 0, 4] [HdP p ab na (Value.slice (some (Addr.mk cb (0 : Nat) none)) nc cc) (Value.slice (some (Addr.mk bb (0 : Nat) none)) nb bc), PtP ab na u, R2 r q us ta tk.length tc, ints (3 : TypeId) IntKind.i64 ta tc tk, BG bb nb sq B] Go.Proofs.Try.func43 (fun _ => by kernel_rfl) (by kernel_rfl) (by kernel_rfl) ?_)
  exact ⟨by rw [show ((at0 : Int) + (n : Int)).toNat = at0 + n from by omega, show at0 + n - at0 = n from by omega], rfl⟩
end

/-- take of the free list of a class. -/
theorem takeLG (cb nc : Nat) (sp : List Value) (C : Nat → Cls) (k i : Nat) (hk : k < nc) (hnc : nc ≤ 100) (hi : i < (C k).fr.length) (hl : (C k).fr.length ≤ 100000) : Does Try.prog 41 [.pointer (some ⟨cb, k * 3 + 1, none⟩), .int .i64 (i : Nat)] [CG cb nc sp C, I2 (C k).fa (C k).fc (C k).fr]
    (Ret (.int .i64 ((C k).fr.getD i 0)) [CG cb nc sp (updF C k ⟨(C k).size, (C k).fa, (C k).fc, (C k).fr.eraseIdx i⟩), I2 (C k).fa (C k).fc ((C k).fr.eraseIdx i)]) := by
  have hd := deli_d (C k).fa (C k).fc (C k).fr i hi
  (focus
    refine Xg.spec_of Go.Proofs.Try.func41 rfl Go.Proofs.Try.ntmps41 fun g F => ?_)
  (focus
    refine Xg.at_seq ?_
    refine Xg.at_region ?_
    refine Xg.ops_op (by kernel_rfl) (Xg.opx_pure ((iv 0)) rfl (fun _ => by kernel_rfl) ?_)
    refine Xg.ops_nil ?_
    refine Xg.at_seq ?_
    refine Xg.at_region ?_
    refine Xg.ops_op (by kernel_rfl) (Xg.opx_pure ((Value.pointer (some (Addr.mk cb (k * (3 : Nat) + (1 : Nat)) none)))) rfl (fun _ => by kernel_rfl) ?_)
    refine Xg.ops_op (by kernel_rfl) (Xg.opx_pure ((Value.pointer (some (Addr.mk cb (k * (3 : Nat) + (1 : Nat)) none)))) rfl (fun _ => by kernel_rfl) ?_)
    refine Xg.ops_op (by kernel_rfl) (Xg.opx_pure ((Value.pointer (some (Addr.mk cb (k * (3 : Nat) + (1 : Nat)) none)))) rfl (fun _ => by kernel_rfl) ?_)
    refine Xg.ops_op (by kernel_rfl) (Xg.opx_load (b := cb) (off := (k * (3 : Nat) + (1 : Nat))) 0 (Value.slice (C k).fa (C k).fr.length (C k).fc) rfl (by kernel_rfl) (@Go.Proofs.Ytmplimmcjdkhlaa.g_c1 (nc) (sp) (C) (k) (by omega)) (by kernel_rfl) ?_)
    refine Xg.ops_op (by kernel_rfl) (Xg.opx_pure ((iv (↑i : Int))) rfl (fun _ => by kernel_rfl) ?_)
    refine Xg.ops_op (by kernel_rfl) (Xg.opx_ix_own (elem := 3) (kd := .i64) (e := ((↑i : Int))) 1 1 i i rfl (by kernel_rfl) (by kernel_rfl) (by kernel_rfl) (by kernel_rfl) rfl (by omega) (by omega) ?_)
    refine Xg.ops_op (by kernel_rfl) (Xg.opx_load_own (a := ((C k).fa)) (off := i) 1 (iv ((C k).fr.getD i (0 : Int))) rfl (by kernel_rfl) (Xg.get_ints (by omega)) (by kernel_rfl) ?_)
    refine Xg.ops_op (by kernel_rfl) (Xg.opx_pure ((iv ((C k).fr.getD i (0 : Int)))) rfl (fun _ => by kernel_rfl) ?_)
    refine Xg.ops_nil ?_
    refine Xg.at_seq ?_
    refine Xg.at_region ?_
    refine Xg.ops_op (by kernel_rfl) (Xg.opx_pure ((Value.pointer (some (Addr.mk cb (k * (3 : Nat) + (1 : Nat)) none)))) rfl (fun _ => by kernel_rfl) ?_)
    refine Xg.ops_op (by kernel_rfl) (Xg.opx_pure ((Value.pointer (some (Addr.mk cb (k * (3 : Nat) + (1 : Nat)) none)))) rfl (fun _ => by kernel_rfl) ?_)
    refine Xg.ops_op (by kernel_rfl) (Xg.opx_pure ((Value.pointer (some (Addr.mk cb (k * (3 : Nat) + (1 : Nat)) none)))) rfl (fun _ => by kernel_rfl) ?_)
    refine Xg.ops_op (by kernel_rfl) (Xg.opx_pure ((Value.pointer (some (Addr.mk cb (k * (3 : Nat) + (1 : Nat)) none)))) rfl (fun _ => by kernel_rfl) ?_)
    refine Xg.ops_op (by kernel_rfl) (Xg.opx_load (b := cb) (off := (k * (3 : Nat) + (1 : Nat))) 0 (Value.slice (C k).fa (C k).fr.length (C k).fc) rfl (by kernel_rfl) (@Go.Proofs.Ytmplimmcjdkhlaa.g_c1 (nc) (sp) (C) (k) (by omega)) (by kernel_rfl) ?_)
    refine Xg.ops_op (by kernel_rfl) (Xg.opx_pure ((iv (↑i : Int))) rfl (fun _ => by kernel_rfl) ?_)
    refine Xg.ops_op (by kernel_rfl) (Xg.opx_pure ((iv (↑i : Int))) rfl (fun _ => by kernel_rfl) ?_)
    refine Xg.ops_op (by kernel_rfl) (Xg.opx_int .i64 (IntKind.wrap .i64 (((↑i : Int) + (1 : Int)))) rfl (fun _ => by kernel_rfl) (Xg.wrap_i64_in (by omega)) ?_)
    refine Xg.ops_op (by kernel_rfl) (Xg.opx_call1' [1] [I2 (C k).fa (C k).fc ((C k).fr.eraseIdx i), CG cb nc sp C] (fun _ => by kernel_rfl) (@hd ) (by kernel_rfl) (by kernel_rfl) (by kernel_rfl) ?_)
    refine Xg.ops_op (by kernel_rfl) (Xg.opx_pure ((Value.pointer (some (Addr.mk cb (k * (3 : Nat) + (1 : Nat)) none)))) rfl (fun _ => by kernel_rfl) ?_)
    refine Xg.ops_op (by kernel_rfl) (Xg.opx_pure ((Value.pointer (some (Addr.mk cb (k * (3 : Nat) + (1 : Nat)) none)))) rfl (fun _ => by kernel_rfl) ?_)
    refine Xg.ops_op (by kernel_rfl) (Xg.opx_store_c (off := (k * (3 : Nat) + (1 : Nat))) (cs' := (claR nc sp (updF C k (Cls.mk (C k).size (C k).fa (C k).fc ((C k).fr.eraseIdx i))))) 1 (Value.slice (C k).fa ((C k).fr.eraseIdx i).length (C k).fc) (by kernel_rfl) rfl (by kernel_rfl) (by kernel_rfl) (by kernel_rfl) (@Go.Proofs.Ytmplimmcjdkhlaa.s_c1 (nc) (sp) (C) (k) (((C k).fa)) (((C k).fr.eraseIdx i)) (((C k).fc)) (by omega)) ?_)
    refine Xg.ops_nil ?_
    refine Xg.at_seq ?_
    refine Xg.at_region ?_
    refine Xg.ops_op (by kernel_rfl) (Xg.opx_pure ((iv ((C k).fr.getD i (0 : Int)))) rfl (fun _ => by kernel_rfl) ?_)
    refine Xg.ops_op (by kernel_rfl) (Xg.opx_pure ((iv ((C k).fr.getD i (0 : Int)))) rfl (fun _ => by kernel_rfl) ?_)
    refine Xg.ops_nil ?_
    refine Xg.at_ret_ps (v := (iv ((C k).fr.getD i (0 : Int)))) [1, 0] [row cb (98 : TypeId) (claR nc sp (updF C k (Cls.mk (C k).size (C k).fa (C k).fc ((C k).fr.eraseIdx i)))), I2 (C k).fa (C k).fc ((C k).fr.eraseIdx i)] Go.Proofs.Try.func41 (fun _ => by kernel_rfl) (by kernel_rfl) (by kernel_rfl) ?_
    exact ⟨by kernel_rfl, by kernel_rfl⟩)
end Go.Proofs.Ytmplimmcjdkhlaa

/- The arena package, any Pool: the class for a size; Take. -/
namespace Go.Proofs.Ytmplimmcjdkhlaa
open Go.Sl Go.Xg
set_option linter.unusedVariables false
set_option linter.unusedSimpArgs false
set_option linter.unnecessarySimpa false
set_option maxHeartbeats 4000000
set_option maxRecDepth 100000

theorem rowF_has {α : Type} [Inhabited α] {cells : α → List Value} (wd : Nat) (hw : ∀ x, (cells x).length = wd) (n : Nat) (sp : List Value) (f : Nat → α) (i : Nat) (hi : i < n) : Has (rowF cells n sp f) (i * wd) (cells (f i)) := fun j v hv =>
  rowF_get wd hw n sp f i j hi v (by have := (List.getElem?_eq_some_iff.1 hv).1; rwa [hw] at this) hv
theorem h_c (n : Nat) (sp : List Value) (C : Nat → Cls) (i : Nat) (hi : i < n) : Has (claR n sp C) (i * 3) [.int .i64 (C i).size, .slice (C i).fa (C i).fr.length (C i).fc, fnO] := rowF_has 3 (fun _ => rfl) n sp C i hi


theorem idxG (b cb nc cc : Nat) (sp : List Value) (C : Nat → Cls) (s : Int) (k : Nat) (hk : k < nc) (hnc : nc ≤ 100) (hs : s ≤ (C k).size) (hj : ∀ j, j < k → (C j).size < s) : Does Try.prog 39 [.slice (some ⟨cb, 0, none⟩) nc cc, .func (.func 40) #[] #[.pointer (some ⟨b, 0, none⟩)]] [CG cb nc sp C, row b 3 [.int .i64 s]]
    (Ret (.int .i64 (k : Nat)) [CG cb nc sp C, row b 3 [.int .i64 s]]) := by
  have hE : Go.Proofs.Enters Try.prog 40 := enters_of Try.func40 (by kernel_rfl) rfl
  have ht := fun i => sizeT_d b (CG cb nc sp C) s (C i).size (C i).fa (C i).fr.length (C i).fc
  (focus
    refine Xg.spec_of Go.Proofs.Try.func39 rfl Go.Proofs.Try.ntmps39 fun g F => ?_)
  (focus
    refine Xg.at_seq ?_
    refine Xg.at_region ?_
    refine Xg.ops_op (by kernel_rfl) (Xg.opx_pure ((iv 0)) rfl (fun _ => by kernel_rfl) ?_)
    refine Xg.ops_nil ?_
    refine Xg.at_seq ?_
    refine Xg.at_seq ?_
    refine Xg.at_region ?_
    refine Xg.ops_op (by kernel_rfl) (Xg.opx_pure ((Value.slice (some (Addr.mk cb (0 : Nat) none)) nc cc)) rfl (fun _ => by kernel_rfl) ?_)
    refine Xg.ops_op (by kernel_rfl) (Xg.opx_pure ((iv (↑nc : Int))) rfl (fun _ => by kernel_rfl) ?_)
    refine Xg.ops_op (by kernel_rfl) (Xg.opx_pure ((iv 0)) rfl (fun _ => by kernel_rfl) ?_)
    refine Xg.ops_nil ?_
    refine Xg.at_block ?_)
  (focus
    refine Xg.at_rounds_inv (α := (Nat) × (Nat → Value)) (fun x => ((fun i => i ≤ k) : (Nat) → Prop) x.1) (fun x => ((fun i => k - i) : (Nat) → Nat) x.1) (fun x => Xg.headT [Value.slice (some (Addr.mk cb (0 : Nat) none)) nc cc, Value.func (Fn.func (40 : Nat)) #[] #[pv b 0], tu, tu, iv 0, tu, Value.slice (some (Addr.mk cb (0 : Nat) none)) nc cc, iv (↑nc : Int), iv 0, tu, tu, tu, tu, tu, tu, tu, tu, tu, tu] [4, 5, 9, 10, 11, 12, 13, 14, 15, 16, 17, 18] (((fun i => [(8, .int .i64 (i : Nat))]) : (Nat) → List (Nat × Go.Value)) x.1) x.2) (fun x => ((fun i => [CG cb nc sp C, row b 3 [.int .i64 s]]) : (Nat) → List Go.Sl.HP) x.1) ((0), fun j9 => ([Value.slice (some (Addr.mk cb (0 : Nat) none)) nc cc, Value.func (Fn.func (40 : Nat)) #[] #[pv b 0], tu, tu, iv 0, tu, Value.slice (some (Addr.mk cb (0 : Nat) none)) nc cc, iv (↑nc : Int), iv 0, tu, tu, tu, tu, tu, tu, tu, tu, tu, tu] : List Value).getD j9 undef) (by kernel_rfl) (by kernel_rfl) ?_ ?_)
  · exact Nat.zero_le _
  rintro ⟨i, J⟩ hi ih
  dsimp only at hi
  (focus
    refine Xg.At.same (T' := [Value.slice (some (Addr.mk cb (0 : Nat) none)) nc cc, Value.func (Fn.func (40 : Nat)) #[] #[pv b 0], tu, tu, J 4, J 5, Value.slice (some (Addr.mk cb (0 : Nat) none)) nc cc, iv (↑nc : Int), iv (↑i : Int), J 9, J 10, J 11, J 12, J 13, J 14, J 15, J 16, J 17, J 18]) (L' := [CG cb nc sp C, row b (3 : TypeId) [iv s]]) (by kernel_rfl) rfl ?_)
  have hti := ht i
  by_cases hlt : i < k
  · have hji := hj i hlt
    rw [decide_eq_false (show ¬ (C i).size ≥ s from by omega)] at hti
    (focus
      refine Xg.at_seq ?_
      refine Xg.at_region ?_
      refine Xg.ops_op (by kernel_rfl) (Xg.opx_pure (.bool (decide ((((↑i : Int)) : Int) < ((↑nc : Int))))) rfl (fun _ => by kernel_rfl) ?_)
      refine Xg.ops_nil ?_
      refine Xg.at_seq ?_
      refine Xg.at_true (t := decide (((↑i : Int) < (↑nc : Int)))) (by kernel_rfl) (decide_eq_true (by omega)) ?_
      refine Xg.at_skip ?_
      refine Xg.at_seq ?_
      refine Xg.at_block ?_
      refine Xg.at_seq ?_
      refine Xg.at_region ?_
      refine Xg.ops_op (by kernel_rfl) (Xg.opx_pure ((iv (↑i : Int))) rfl (fun _ => by kernel_rfl) ?_)
      refine Xg.ops_op (by kernel_rfl) (Xg.opx_pure ((iv (↑i : Int))) rfl (fun _ => by kernel_rfl) ?_)
      refine Xg.ops_nil ?_
      refine Xg.at_seq ?_
      refine Xg.at_region ?_
      refine Xg.ops_op (by kernel_rfl) (Xg.opx_pure ((Value.func (Fn.func (40 : Nat)) #[] #[pv b 0])) rfl (fun _ => by kernel_rfl) ?_)
      refine Xg.ops_op (by kernel_rfl) (Xg.opx_pure ((Value.slice (some (Addr.mk cb (0 : Nat) none)) nc cc)) rfl (fun _ => by kernel_rfl) ?_)
      refine Xg.ops_op (by kernel_rfl) (Xg.opx_pure ((iv (↑i : Int))) rfl (fun _ => by kernel_rfl) ?_)
      refine Xg.ops_op (by kernel_rfl) (Xg.opx_run (.pointer (some (Addr.mk cb (i * (3 : Nat)) none))) rfl (Xg.run_ix_slice' (elem := 98) (b := cb) (off := ((0 : Nat))) (len := nc) (cap := cc) (kd := .i64) (e := ((↑i : Int))) 3 i (i * (3 : Nat)) (by kernel_rfl) (by kernel_rfl) (by kernel_rfl) (by kernel_rfl) rfl (by omega) (by omega)) ?_)
      refine Xg.ops_op (by kernel_rfl) (Xg.opx_loadn (off := (i * (3 : Nat))) 3 0 [iv (C i).size, Value.slice (C i).fa (C i).fr.length (C i).fc, fnO] (by kernel_rfl) rfl (by kernel_rfl) (by first | assumption | exact Xg.seg_len _ _ _ | rfl) (@Go.Proofs.Ytmplimmcjdkhlaa.h_c (nc) (sp) (C) (i) (by omega)) (by kernel_rfl) ?_))
    refine Xg.ops_op (by kernel_rfl) (Xg.opx_call1' (args := [.agg #[.int .i64 (C i).size, .slice (C i).fa (C i).fr.length (C i).fc, fnO], .pointer (some ⟨b, 0, none⟩)]) [0, 1] [CG cb nc sp C, row b 3 [.int .i64 s]] (fun w => Eq.trans (b := Sem.run Try.prog (callFunc 40 #[.agg #[.int .i64 (C i).size, .slice (C i).fa (C i).fr.length (C i).fc, fnO], .pointer (some ⟨b, 0, none⟩)]) w) (by kernel_rfl) (hE _ w)) hti (by kernel_rfl) rfl rfl ?_)
    (focus
      refine Xg.ops_nil ?_
      refine Xg.at_false (t := false) (by kernel_rfl) rfl ?_
      refine Xg.at_skip ?_
      refine Xg.at_inBlock ?_
      refine Xg.at_region ?_
      refine Xg.ops_op (by kernel_rfl) (Xg.opx_int .i64 (IntKind.wrap .i64 (((↑i : Int) + (1 : Int)))) rfl (fun _ => by kernel_rfl) (Xg.wrap_i64_in (by omega)) ?_)
      refine Xg.ops_op (by kernel_rfl) (Xg.opx_pure ((iv ((↑i : Int) + (1 : Int)))) rfl (fun _ => by kernel_rfl) ?_)
      refine Xg.ops_nil ?_
      refine Xg.at_inLoop ?_)
    (focus
      refine Xg.at_keep [0, 1] (by kernel_rfl) ?_
      refine Xs.same ?_ (fun J9 => ih (((i + 1)), J9) ?_ ?_) (by kernel_rfl))
    · rfl
    · dsimp only; omega
    · dsimp only; omega
  · obtain rfl : i = k := by omega
    rw [decide_eq_true (show (C i).size ≥ s from hs)] at hti
    clear ih
    (focus
      refine Xg.at_seq ?_
      refine Xg.at_region ?_
      refine Xg.ops_op (by kernel_rfl) (Xg.opx_pure (.bool (decide ((((↑i : Int)) : Int) < ((↑nc : Int))))) rfl (fun _ => by kernel_rfl) ?_)
      refine Xg.ops_nil ?_
      refine Xg.at_seq ?_
      refine Xg.at_true (t := decide (((↑i : Int) < (↑nc : Int)))) (by kernel_rfl) (decide_eq_true (by omega)) ?_
      refine Xg.at_skip ?_
      refine Xg.at_seq ?_
      refine Xg.at_block ?_
      refine Xg.at_seq ?_
      refine Xg.at_region ?_
      refine Xg.ops_op (by kernel_rfl) (Xg.opx_pure ((iv (↑i : Int))) rfl (fun _ => by kernel_rfl) ?_)
      refine Xg.ops_op (by kernel_rfl) (Xg.opx_pure ((iv (↑i : Int))) rfl (fun _ => by kernel_rfl) ?_)
      refine Xg.ops_nil ?_
      refine Xg.at_seq ?_
      refine Xg.at_region ?_
      refine Xg.ops_op (by kernel_rfl) (Xg.opx_pure ((Value.func (Fn.func (40 : Nat)) #[] #[pv b 0])) rfl (fun _ => by kernel_rfl) ?_)
      refine Xg.ops_op (by kernel_rfl) (Xg.opx_pure ((Value.slice (some (Addr.mk cb (0 : Nat) none)) nc cc)) rfl (fun _ => by kernel_rfl) ?_)
      refine Xg.ops_op (by kernel_rfl) (Xg.opx_pure ((iv (↑i : Int))) rfl (fun _ => by kernel_rfl) ?_)
      refine Xg.ops_op (by kernel_rfl) (Xg.opx_run (.pointer (some (Addr.mk cb (i * (3 : Nat)) none))) rfl (Xg.run_ix_slice' (elem := 98) (b := cb) (off := ((0 : Nat))) (len := nc) (cap := cc) (kd := .i64) (e := ((↑i : Int))) 3 i (i * (3 : Nat)) (by kernel_rfl) (by kernel_rfl) (by kernel_rfl) (by kernel_rfl) rfl (by omega) (by omega)) ?_)
      refine Xg.ops_op (by kernel_rfl) (Xg.opx_loadn (off := (i * (3 : Nat))) 3 0 [iv (C i).size, Value.slice (C i).fa (C i).fr.length (C i).fc, fnO] (by kernel_rfl) rfl (by kernel_rfl) (by first | assumption | exact Xg.seg_len _ _ _ | rfl) (@Go.Proofs.Ytmplimmcjdkhlaa.h_c (nc) (sp) (C) (i) (by omega)) (by kernel_rfl) ?_))
    refine Xg.ops_op (by kernel_rfl) (Xg.opx_call1' (args := [.agg #[.int .i64 (C i).size, .slice (C i).fa (C i).fr.length (C i).fc, fnO], .pointer (some ⟨b, 0, none⟩)]) [0, 1] [CG cb nc sp C, row b 3 [.int .i64 s]] (fun w => Eq.trans (b := Sem.run Try.prog (callFunc 40 #[.agg #[.int .i64 (C i).size, .slice (C i).fa (C i).fr.length (C i).fc, fnO], .pointer (some ⟨b, 0, none⟩)]) w) (by kernel_rfl) (hE _ w)) hti (by kernel_rfl) rfl rfl ?_)
    (focus
      refine Xg.ops_nil ?_
      refine Xg.at_true (t := true) (by kernel_rfl) rfl ?_
      refine Xg.at_seq ?_
      refine Xg.at_region ?_
      refine Xg.ops_op (by kernel_rfl) (Xg.opx_pure ((iv (↑i : Int))) rfl (fun _ => by kernel_rfl) ?_)
      refine Xg.ops_op (by kernel_rfl) (Xg.opx_pure ((iv (↑i : Int))) rfl (fun _ => by kernel_rfl) ?_)
      refine Xg.ops_nil ?_
      refine Xg.at_ret_ps (v := (iv (↑i : Int))) [0, 1] [CG cb nc sp C, row b (3 : TypeId) [iv s]] Go.Proofs.Try.func39 (fun _ => by kernel_rfl) (by kernel_rfl) (by kernel_rfl) ?_
      exact ⟨by kernel_rfl, by kernel_rfl⟩)

section
variable (p cb nc cc bb nb bc ab na : Nat) (u : Nat → Option Nat) (id r : Nat) (hid : id < na) (hna : na ≤ 64) (hu : u id = some r) (sp sq : List Value) (C : Nat → Cls) (B : Nat → Buf) (q us : Int) (ta : Option Addr) (tc : Nat) (tk : List Int)
include hid hna hu
/-- Take: it is given. -/
theorem takeG (hnb : nb ≤ 100000) (hnc : nc ≤ 100) (size pk : Int) (hpk : -9223372036854775808 ≤ pk ∧ pk ≤ 9223372036854775807) (k v z : Nat) (hk : k < nc) (hs0 : 1 ≤ size) (hs : size ≤ (C k).size) (hj : ∀ j, j < k → (C j).size < size) (hz : (C k).size = (z : Nat)) (hz1 : z ≤ 65536) (hq : (z : Int) ≤ q - us) (hq1 : 0 ≤ us ∧ q ≤ 1000000000000) (hf : 0 < (C k).fr.length) (hf1 : (C k).fr.length ≤ 100000)
    (i : Nat) (hi : (i : Int) = (if pk < 0 then -(pk + 1) else pk) % ((C k).fr.length : Int)) (hv : (C k).fr.getD i 0 = (v : Nat)) (hvb : v < nb) (hcl : (B v).cls = k) (htk : tk.length ≤ 100000) :
    Does Try.prog 17 [.pointer (some ⟨p, 0, none⟩), .int .i64 (id : Nat), .int .i64 size, .int .i64 pk] [HG p cb nc cc bb nb bc ab na, PtP ab na u, CG cb nc sp C, BG bb nb sq B, R2 r q us ta tk.length tc, I2 (C k).fa (C k).fc (C k).fr, I2 ta tc tk]
    (RetE (fun x : Option Addr × Option Addr × Nat => x.1.isNone = false) (fun x => .tuple #[.agg #[.int .i64 (v : Nat), .int .i64 (k : Nat), .int .i64 (z : Nat)], .int .i64 0])
      (fun x => [HG p cb nc cc bb nb bc ab na, PtP ab na u, CG cb nc sp (updF C k ⟨(C k).size, (C k).fa, (C k).fc, (C k).fr.eraseIdx i⟩), BG bb nb sq (updF B v ⟨(B v).cls, x.1, z, z⟩), R2 r q (us + z) x.2.1 (tk ++ [(v : Int)]).length x.2.2, I2 (C k).fa (C k).fc ((C k).fr.eraseIdx i), Y2 x.1 z (List.replicate z 0), I2 x.2.1 x.2.2 (tk ++ [(v : Int)])])) := by
  have ho := of_some p ab na id r (.slice (some ⟨cb, 0, none⟩) nc cc) (.slice (some ⟨bb, 0, none⟩) nb bc) u hid hna hu
  have hx := fun b => idxG b cb nc cc sp C size k hk hnc hs hj
  have hin : i < (C k).fr.length := by
    have h1 := Int.emod_lt_of_pos (if pk < 0 then -(pk + 1) else pk) (b := ((C k).fr.length : Int)) (by omega)
    omega
  have ht := takeLG cb nc sp C k i hk hnc hin hf1
  rw [hv] at ht
  (focus
    refine Xg.spec_of Go.Proofs.Try.func17 rfl Go.Proofs.Try.ntmps17 fun g F => ?_)
  (focus
    refine Xg.at_seq ?_
    refine Xg.at_region ?_
    refine Xg.ops_op (by kernel_rfl) (Xg.opx_box (v := (iv size)) [(iv size)] (by kernel_rfl) (by kernel_rfl) fun xb1 => ?_)
    refine Xg.ops_op (by kernel_rfl) (Xg.opx_new 3 [iv 0, iv 0, iv 0] (by kernel_rfl) (by kernel_rfl) fun xb2 => ?_)
    refine Xg.ops_op (by kernel_rfl) (Xg.opx_pure ((iv 0)) rfl (fun _ => by kernel_rfl) ?_)
    refine Xg.ops_nil ?_
    refine Xg.at_seq ?_
    refine Xg.at_region ?_
    refine Xg.ops_op (by kernel_rfl) (Xg.opx_pure ((pv p 0)) rfl (fun _ => by kernel_rfl) ?_)
    refine Xg.ops_op (by kernel_rfl) (Xg.opx_pure ((iv (↑id : Int))) rfl (fun _ => by kernel_rfl) ?_)
    refine Xg.ops_op (by kernel_rfl) (Xg.opx_call1' [2, 3] [HdP p ab na (Value.slice (some (Addr.mk cb (0 : Nat) none)) nc cc) (Value.slice (some (Addr.mk bb (0 : Nat) none)) nb bc), PtP ab na u, row xb2 (42 : Nat) [iv 0, iv 0, iv 0], row xb1 (3 : Nat) [iv size], CG cb nc sp C, BG bb nb sq B, R2 r q us ta tk.length tc, I2 (C k).fa (C k).fc (C k).fr, I2 ta tc tk] (fun _ => by kernel_rfl) (@ho ) (by kernel_rfl) (by kernel_rfl) (by kernel_rfl) ?_)
    refine Xg.ops_op (by kernel_rfl) (Xg.opx_pure ((pv r 0)) rfl (fun _ => by kernel_rfl) ?_)
    refine Xg.ops_nil ?_
    refine Xg.at_seq ?_
    refine Xg.at_seq ?_
    refine Xg.at_region ?_
    refine Xg.ops_op (by kernel_rfl) (Xg.opx_pure ((pv r 0)) rfl (fun _ => by kernel_rfl) ?_)
    refine Xg.ops_op (by kernel_rfl) (Xg.opx_pure ((Value.bool false)) rfl (fun _ => by kernel_rfl) ?_)
    refine Xg.ops_nil ?_
    refine Xg.at_false (t := false) (by kernel_rfl) rfl ?_
    refine Xg.at_skip ?_
    refine Xg.at_seq ?_
    refine Xg.at_region ?_
    refine Xg.ops_op (by kernel_rfl) (Xg.opx_pure ((pv p 0)) rfl (fun _ => by kernel_rfl) ?_)
    refine Xg.ops_op (by kernel_rfl) (Xg.opx_pure ((pv p 0)) rfl (fun _ => by kernel_rfl) ?_)
    refine Xg.ops_op (by kernel_rfl) (Xg.opx_pure ((pv p 0)) rfl (fun _ => by kernel_rfl) ?_)
    refine Xg.ops_op (by kernel_rfl) (Xg.opx_load (b := p) (off := ((0 : Nat))) 0 (Value.slice (some (Addr.mk cb (0 : Nat) none)) nc cc) rfl (by kernel_rfl) (by kernel_rfl) (by kernel_rfl) ?_)
    refine Xg.ops_op (by kernel_rfl) (Xg.opx_pure ((Value.func (Fn.func (40 : Nat)) #[] #[pv xb1 0])) rfl (fun _ => by kernel_rfl) ?_)
    refine Xg.ops_op (by kernel_rfl) (Xg.opx_call1' [4, 3] [CG cb nc sp C, row xb1 (3 : TypeId) [iv size], HdP p ab na (Value.slice (some (Addr.mk cb (0 : Nat) none)) nc cc) (Value.slice (some (Addr.mk bb (0 : Nat) none)) nb bc), PtP ab na u, row xb2 (42 : Nat) [iv 0, iv 0, iv 0], BG bb nb sq B, R2 r q us ta tk.length tc, I2 (C k).fa (C k).fc (C k).fr, I2 ta tc tk] (fun _ => by kernel_rfl) (@hx (xb1)) (by kernel_rfl) (by kernel_rfl) (by kernel_rfl) ?_)
    refine Xg.ops_op (by kernel_rfl) (Xg.opx_pure ((iv (↑k : Int))) rfl (fun _ => by kernel_rfl) ?_)
    refine Xg.ops_nil ?_
    refine Xg.at_seq ?_
    refine Xg.at_seq ?_
    refine Xg.at_region ?_
    refine Xg.ops_op (by kernel_rfl) (Xg.opx_load (b := xb1) (off := ((0 : Nat))) 1 (iv size) rfl (by kernel_rfl) (by kernel_rfl) (by kernel_rfl) ?_)
    refine Xg.ops_op (by kernel_rfl) (Xg.opx_pure (.bool (decide ((size : Int) < ((1 : Int))))) rfl (fun _ => by kernel_rfl) ?_)
    refine Xg.ops_op (by kernel_rfl) (Xg.opx_pure ((Value.bool (decide (size < (1 : Int))))) rfl (fun _ => by kernel_rfl) ?_)
    refine Xg.ops_flag (j := 29) (c := (decide (size < (1 : Int)))) (by kernel_rfl) (fun xh1 => absurd (of_decide_eq_true xh1) (by omega)) (fun _ => ?_)
    refine Xg.ops_op (by kernel_rfl) (Xg.opx_pure ((iv (↑k : Int))) rfl (fun _ => by kernel_rfl) ?_)
    refine Xg.ops_op (by kernel_rfl) (Xg.opx_pure (.bool (decide ((((↑k : Int)) : Int) < ((0 : Int))))) rfl (fun _ => by kernel_rfl) ?_)
    refine Xg.ops_flag (j := 31) (c := (decide ((↑k : Int) < (0 : Int)))) (by kernel_rfl) (fun xh1 => absurd (of_decide_eq_true xh1) (by omega)) (fun _ => ?_)
    refine Xg.ops_op (by kernel_rfl) (Xg.opx_pure ((Value.bool false)) rfl (fun _ => by kernel_rfl) ?_)
    refine Xg.ops_nil ?_
    refine Xg.at_false (t := false) (by kernel_rfl) rfl ?_
    refine Xg.at_skip ?_
    refine Xg.at_seq ?_
    refine Xg.at_region ?_
    refine Xg.ops_op (by kernel_rfl) (Xg.opx_pure ((pv p 0)) rfl (fun _ => by kernel_rfl) ?_)
    refine Xg.ops_op (by kernel_rfl) (Xg.opx_pure ((pv p 0)) rfl (fun _ => by kernel_rfl) ?_)
    refine Xg.ops_op (by kernel_rfl) (Xg.opx_pure ((pv p 0)) rfl (fun _ => by kernel_rfl) ?_)
    refine Xg.ops_op (by kernel_rfl) (Xg.opx_load (b := p) (off := ((0 : Nat))) 2 (Value.slice (some (Addr.mk cb (0 : Nat) none)) nc cc) rfl (by kernel_rfl) (by kernel_rfl) (by kernel_rfl) ?_)
    refine Xg.ops_op (by kernel_rfl) (Xg.opx_pure ((iv (↑k : Int))) rfl (fun _ => by kernel_rfl) ?_)
    refine Xg.ops_op (by kernel_rfl) (Xg.opx_run (.pointer (some (Addr.mk cb (k * (3 : Nat)) none))) rfl (Xg.run_ix_slice' (elem := 98) (b := cb) (off := ((0 : Nat))) (len := nc) (cap := cc) (kd := .i64) (e := ((↑k : Int))) 3 k (k * (3 : Nat)) (by kernel_rfl) (by kernel_rfl) (by kernel_rfl) (by kernel_rfl) rfl (by omega) (by omega)) ?_)
    refine Xg.ops_op (by kernel_rfl) (Xg.opx_pure ((Value.pointer (some (Addr.mk cb (k * (3 : Nat)) none)))) rfl (fun _ => by kernel_rfl) ?_)
    refine Xg.ops_nil ?_
    refine Xg.at_seq ?_
    refine Xg.at_region ?_
    refine Xg.ops_op (by kernel_rfl) (Xg.opx_pure ((Value.pointer (some (Addr.mk cb (k * (3 : Nat)) none)))) rfl (fun _ => by kernel_rfl) ?_)
    refine Xg.ops_op (by kernel_rfl) (Xg.opx_pure ((Value.pointer (some (Addr.mk cb (k * (3 : Nat)) none)))) rfl (fun _ => by kernel_rfl) ?_)
    refine Xg.ops_op (by kernel_rfl) (Xg.opx_pure ((Value.pointer (some (Addr.mk cb (k * (3 : Nat) + (1 : Nat)) none)))) rfl (fun _ => by kernel_rfl) ?_)
    refine Xg.ops_op (by kernel_rfl) (Xg.opx_pure ((Value.pointer (some (Addr.mk cb (k * (3 : Nat) + (1 : Nat)) none)))) rfl (fun _ => by kernel_rfl) ?_)
    refine Xg.ops_op (by kernel_rfl) (Xg.opx_load (b := cb) (off := (k * (3 : Nat) + (1 : Nat))) 0 (Value.slice (C k).fa (C k).fr.length (C k).fc) rfl (by kernel_rfl) (@Go.Proofs.Ytmplimmcjdkhlaa.g_c1 (nc) (sp) (C) (k) (by omega)) (by kernel_rfl) ?_)
    refine Xg.ops_op (by kernel_rfl) (Xg.opx_pure ((iv (↑(C k).fr.length : Int))) rfl (fun _ => by kernel_rfl) ?_)
    refine Xg.ops_op (by kernel_rfl) (Xg.opx_pure ((iv (↑(C k).fr.length : Int))) rfl (fun _ => by kernel_rfl) ?_)
    refine Xg.ops_nil ?_
    refine Xg.at_seq ?_
    refine Xg.at_block ?_
    refine Xg.at_seq ?_
    refine Xg.at_draw [] [(3, [0, 1, 2, 3, 4, 5, 6, 7, 8, 9, 10, 11, 12], Xg.CellIs (cb) ((k * (3 : Nat))) ((iv (C k).size))), (7, [0, 1, 2, 3, 4, 5, 6, 7, 8, 9, 10, 11], Xg.CellIs (r) (((0 : Nat))) ((iv q))), (11, [0, 1, 2, 3, 4, 5, 6, 7, 8, 9, 10, 11], Xg.CellIs (r) (((1 : Nat))) ((iv us)))] (by kernel_rfl) ?_
    refine Xg.any_pure ((Value.pointer (some (Addr.mk cb (k * (3 : Nat)) none)))) 0 (by kernel_rfl) rfl (by kernel_rfl) (by kernel_rfl) (by kernel_rfl) (by kernel_rfl) rfl (fun _ => by kernel_rfl) ?_
    refine Xg.any_pure ((Value.pointer (some (Addr.mk cb (k * (3 : Nat)) none)))) 1 (by kernel_rfl) rfl (by kernel_rfl) (by kernel_rfl) (by kernel_rfl) (by kernel_rfl) rfl (fun _ => by kernel_rfl) ?_
    refine Xg.any_pure ((Value.pointer (some (Addr.mk cb (k * (3 : Nat)) none)))) 2 (by kernel_rfl) rfl (by kernel_rfl) (by kernel_rfl) (by kernel_rfl) (by kernel_rfl) rfl (fun _ => by kernel_rfl) ?_
    refine Xg.any_reads (iv (C k).size) 3 0 (by kernel_rfl) rfl (by kernel_rfl) (by kernel_rfl) (by kernel_rfl) (by kernel_rfl) rfl rfl (by kernel_rfl) (Xg.cell_now (b := cb) (off := (k * (3 : Nat))) 0 rfl (@Go.Proofs.Ytmplimmcjdkhlaa.g_c0 (nc) (sp) (C) (k) (by omega))) (fun _ h => Xg.run_load (by kernel_rfl) (by kernel_rfl) h) ?_
    refine Xg.any_pure ((pv r 0)) 4 (by kernel_rfl) rfl (by kernel_rfl) (by kernel_rfl) (by kernel_rfl) (by kernel_rfl) rfl (fun _ => by kernel_rfl) ?_
    refine Xg.any_pure ((pv r 0)) 5 (by kernel_rfl) rfl (by kernel_rfl) (by kernel_rfl) (by kernel_rfl) (by kernel_rfl) rfl (fun _ => by kernel_rfl) ?_
    refine Xg.any_pure ((pv r 0)) 6 (by kernel_rfl) rfl (by kernel_rfl) (by kernel_rfl) (by kernel_rfl) (by kernel_rfl) rfl (fun _ => by kernel_rfl) ?_
    refine Xg.any_reads (iv q) 7 1 (by kernel_rfl) rfl (by kernel_rfl) (by kernel_rfl) (by kernel_rfl) (by kernel_rfl) rfl rfl (by kernel_rfl) (Xg.cell_now (b := r) (off := ((0 : Nat))) 6 rfl (by kernel_rfl)) (fun _ h => Xg.run_load (by kernel_rfl) (by kernel_rfl) h) ?_
    refine Xg.any_pure ((pv r 0)) 8 (by kernel_rfl) rfl (by kernel_rfl) (by kernel_rfl) (by kernel_rfl) (by kernel_rfl) rfl (fun _ => by kernel_rfl) ?_
    refine Xg.any_pure ((pv r 0)) 9 (by kernel_rfl) rfl (by kernel_rfl) (by kernel_rfl) (by kernel_rfl) (by kernel_rfl) rfl (fun _ => by kernel_rfl) ?_
    refine Xg.any_pure ((pv r 1)) 10 (by kernel_rfl) rfl (by kernel_rfl) (by kernel_rfl) (by kernel_rfl) (by kernel_rfl) rfl (fun _ => by kernel_rfl) ?_
    refine Xg.any_reads (iv us) 11 2 (by kernel_rfl) rfl (by kernel_rfl) (by kernel_rfl) (by kernel_rfl) (by kernel_rfl) rfl rfl (by kernel_rfl) (Xg.cell_now (b := r) (off := ((1 : Nat))) 6 rfl (by kernel_rfl)) (fun _ h => Xg.run_load (by kernel_rfl) (by kernel_rfl) h) ?_
    refine Xg.any_int .i64 (IntKind.wrap .i64 ((q - us))) 12 (by kernel_rfl) rfl (by kernel_rfl) (by kernel_rfl) (by kernel_rfl) (by kernel_rfl) rfl (fun _ => by kernel_rfl) (Xg.wrap_i64_in (by omega)) ?_
    refine Xg.any_pure (.bool (decide ((((C k).size) : Int) > (q - us)))) 13 (by kernel_rfl) rfl (by kernel_rfl) (by kernel_rfl) (by kernel_rfl) (by kernel_rfl) rfl (fun _ => by kernel_rfl) ?_
    refine Xg.any_pure ((Value.bool (decide ((C k).size > q - us)))) 14 (by kernel_rfl) rfl (by kernel_rfl) (by kernel_rfl) (by kernel_rfl) (by kernel_rfl) rfl (fun _ => by kernel_rfl) ?_
    refine Xg.any_nil (by kernel_rfl) ?_
    refine Xg.at_false (t := decide (((C k).size > q - us))) (by kernel_rfl) (decide_eq_false (by omega)) ?_
    refine Xg.at_seq ?_
    refine Xg.at_region ?_
    refine Xg.ops_op (by kernel_rfl) (Xg.opx_pure ((iv (↑(C k).fr.length : Int))) rfl (fun _ => by kernel_rfl) ?_)
    refine Xg.ops_op (by kernel_rfl) (Xg.opx_pure (.bool (decide ((((↑(C k).fr.length : Int)) : Int) = ((0 : Int))))) rfl (fun _ => by kernel_rfl) ?_)
    refine Xg.ops_op (by kernel_rfl) (Xg.opx_pure ((Value.bool (decide ((↑(C k).fr.length : Int) = (0 : Int))))) rfl (fun _ => by kernel_rfl) ?_)
    refine Xg.ops_nil ?_
    refine Xg.at_false (t := decide (((↑(C k).fr.length : Int) = (0 : Int)))) (by kernel_rfl) (decide_eq_false (by omega)) ?_
    refine Xg.at_skip ?_
    refine Xg.at_inBlock ?_
    refine Xg.at_seq ?_
    refine Xg.at_seq ?_
    refine Xg.at_region ?_
    refine Xg.ops_op (by kernel_rfl) (Xg.opx_pure ((iv pk)) rfl (fun _ => by kernel_rfl) ?_)
    refine Xg.ops_op (by kernel_rfl) (Xg.opx_pure (.bool (decide ((pk : Int) < ((0 : Int))))) rfl (fun _ => by kernel_rfl) ?_)
    refine Xg.ops_nil ?_)
  (focus
    refine Xg.at_cut (α := (Int) × (Nat → Value)) (fun x9 => ((fun y => y = if pk < 0 then -(pk + 1) else pk) : (Int) → Prop) x9.1) (fun x9 => Xg.headT [pv p 0, iv (↑id : Int), iv size, iv pk, tu, tu, pv xb1 0, tu, pv xb2 0, iv 0, pv r 0, iv (↑k : Int), Value.pointer (some (Addr.mk cb (k * (3 : Nat)) none)), iv (↑(C k).fr.length : Int), tu, pv p 0, iv (↑id : Int), pv r 0, pv r 0, Value.bool false, tu, pv p 0, pv p 0, pv p 0, Value.slice (some (Addr.mk cb (0 : Nat) none)) nc cc, Value.func (Fn.func (40 : Nat)) #[] #[pv xb1 0], iv (↑k : Int), iv size, Value.bool (decide (size < (1 : Int))), Value.bool false, iv (↑k : Int), Value.bool false, Value.bool false, tu, pv p 0, pv p 0, pv p 0, Value.slice (some (Addr.mk cb (0 : Nat) none)) nc cc, iv (↑k : Int), Value.pointer (some (Addr.mk cb (k * (3 : Nat)) none)), Value.pointer (some (Addr.mk cb (k * (3 : Nat)) none)), Value.pointer (some (Addr.mk cb (k * (3 : Nat)) none)), Value.pointer (some (Addr.mk cb (k * (3 : Nat) + (1 : Nat)) none)), Value.pointer (some (Addr.mk cb (k * (3 : Nat) + (1 : Nat)) none)), Value.slice (C k).fa (C k).fr.length (C k).fc, iv (↑(C k).fr.length : Int), Value.bool (decide ((C k).size > q - us)), Value.pointer (some (Addr.mk cb (k * (3 : Nat)) none)), Value.pointer (some (Addr.mk cb (k * (3 : Nat)) none)), Value.pointer (some (Addr.mk cb (k * (3 : Nat)) none)), iv (C k).size, pv r 0, pv r 0, pv r 0, iv q, pv r 0, pv r 0, pv r 1, iv us, iv (q - us), Value.bool (decide ((C k).size > q - us)), tu, Value.bool (decide ((↑(C k).fr.length : Int) = (0 : Int))), iv (↑(C k).fr.length : Int), Value.bool (decide ((↑(C k).fr.length : Int) = (0 : Int))), tu, iv pk, Value.bool (decide (pk < (0 : Int))), tu, tu, tu, tu, tu, tu, tu, tu, tu, tu, tu, tu, tu, tu, tu, tu, tu, tu, tu, tu, tu, tu, tu, tu, tu, tu, tu, tu, tu, tu, tu, tu, tu, tu, tu, tu, tu, tu, tu, tu, tu, tu, tu, tu, tu, tu] [68, 69, 70] (((fun y => [(3, .int .i64 y)]) : (Int) → List (Nat × Go.Value)) x9.1) x9.2) (fun x9 => ((fun y => [HG p cb nc cc bb nb bc ab na, PtP ab na u, CG cb nc sp C, BG bb nb sq B, R2 r q us ta tk.length tc, I2 (C k).fa (C k).fc (C k).fr, I2 ta tc tk, row xb2 42 [.int .i64 0, .int .i64 0, .int .i64 0]]) : (Int) → List Go.Sl.HP) x9.1) (fun kk hk => ?_) ?_)
  · (focus
      refine Xg.at_dec (p := (pk < (0 : Int))) (by kernel_rfl) (fun xh1 => ?_) (fun xh1 => ?_)
      refine Xg.at_region ?_
      refine Xg.ops_op (by kernel_rfl) (Xg.opx_pure ((iv pk)) rfl (fun _ => by kernel_rfl) ?_)
      refine Xg.ops_op (by kernel_rfl) (Xg.opx_int .i64 (IntKind.wrap .i64 ((pk + (1 : Int)))) rfl (fun _ => by kernel_rfl) (Xg.wrap_i64_in (by omega)) ?_)
      refine Xg.ops_op (by kernel_rfl) (Xg.opx_int .i64 (IntKind.wrap .i64 (((0 : Int) - (pk + (1 : Int))))) rfl (fun _ => by kernel_rfl) (Xg.wrap_i64_in (by omega)) ?_)
      refine Xg.ops_op (by kernel_rfl) (Xg.opx_pure ((iv ((0 : Int) - (pk + (1 : Int))))) rfl (fun _ => by kernel_rfl) ?_)
      refine Xg.ops_nil ?_
      rotate_left
      refine Xg.at_skip ?_)
    · (focus
        refine Xg.at_keep [2, 3, 0, 5, 6, 7, 8, 4] (by kernel_rfl) ?_
        refine Xg.At.same (by kernel_rfl) ?_ (hk ((pk), fun j9 => ([pv p 0, iv (↑id : Int), iv size, iv pk, tu, tu, pv xb1 0, tu, pv xb2 0, iv 0, pv r 0, iv (↑k : Int), Value.pointer (some (Addr.mk cb (k * (3 : Nat)) none)), iv (↑(C k).fr.length : Int), tu, pv p 0, iv (↑id : Int), pv r 0, pv r 0, Value.bool false, tu, pv p 0, pv p 0, pv p 0, Value.slice (some (Addr.mk cb (0 : Nat) none)) nc cc, Value.func (Fn.func (40 : Nat)) #[] #[pv xb1 0], iv (↑k : Int), iv size, Value.bool (decide (size < (1 : Int))), Value.bool false, iv (↑k : Int), Value.bool false, Value.bool false, tu, pv p 0, pv p 0, pv p 0, Value.slice (some (Addr.mk cb (0 : Nat) none)) nc cc, iv (↑k : Int), Value.pointer (some (Addr.mk cb (k * (3 : Nat)) none)), Value.pointer (some (Addr.mk cb (k * (3 : Nat)) none)), Value.pointer (some (Addr.mk cb (k * (3 : Nat)) none)), Value.pointer (some (Addr.mk cb (k * (3 : Nat) + (1 : Nat)) none)), Value.pointer (some (Addr.mk cb (k * (3 : Nat) + (1 : Nat)) none)), Value.slice (C k).fa (C k).fr.length (C k).fc, iv (↑(C k).fr.length : Int), Value.bool (decide ((C k).size > q - us)), Value.pointer (some (Addr.mk cb (k * (3 : Nat)) none)), Value.pointer (some (Addr.mk cb (k * (3 : Nat)) none)), Value.pointer (some (Addr.mk cb (k * (3 : Nat)) none)), iv (C k).size, pv r 0, pv r 0, pv r 0, iv q, pv r 0, pv r 0, pv r 1, iv us, iv (q - us), Value.bool (decide ((C k).size > q - us)), tu, Value.bool (decide ((↑(C k).fr.length : Int) = (0 : Int))), iv (↑(C k).fr.length : Int), Value.bool (decide ((↑(C k).fr.length : Int) = (0 : Int))), tu, iv pk, Value.bool (decide (pk < (0 : Int))), tu, tu, tu, tu, tu, tu, tu, tu, tu, tu, tu, tu, tu, tu, tu, tu, tu, tu, tu, tu, tu, tu, tu, tu, tu, tu, tu, tu, tu, tu, tu, tu, tu, tu, tu, tu, tu, tu, tu, tu, tu, tu, tu, tu, tu, tu] : List Value).getD j9 undef) ?_))
      · rfl
      · dsimp only; rw [if_neg (by omega)]
    · (focus
        refine Xg.at_keep [2, 3, 0, 5, 6, 7, 8, 4] (by kernel_rfl) ?_
        refine Xg.At.same (by kernel_rfl) ?_ (hk (((0 - (pk + 1))), fun j9 => ([pv p 0, iv (↑id : Int), iv size, iv ((0 : Int) - (pk + (1 : Int))), tu, tu, pv xb1 0, tu, pv xb2 0, iv 0, pv r 0, iv (↑k : Int), Value.pointer (some (Addr.mk cb (k * (3 : Nat)) none)), iv (↑(C k).fr.length : Int), tu, pv p 0, iv (↑id : Int), pv r 0, pv r 0, Value.bool false, tu, pv p 0, pv p 0, pv p 0, Value.slice (some (Addr.mk cb (0 : Nat) none)) nc cc, Value.func (Fn.func (40 : Nat)) #[] #[pv xb1 0], iv (↑k : Int), iv size, Value.bool (decide (size < (1 : Int))), Value.bool false, iv (↑k : Int), Value.bool false, Value.bool false, tu, pv p 0, pv p 0, pv p 0, Value.slice (some (Addr.mk cb (0 : Nat) none)) nc cc, iv (↑k : Int), Value.pointer (some (Addr.mk cb (k * (3 : Nat)) none)), Value.pointer (some (Addr.mk cb (k * (3 : Nat)) none)), Value.pointer (some (Addr.mk cb (k * (3 : Nat)) none)), Value.pointer (some (Addr.mk cb (k * (3 : Nat) + (1 : Nat)) none)), Value.pointer (some (Addr.mk cb (k * (3 : Nat) + (1 : Nat)) none)), Value.slice (C k).fa (C k).fr.length (C k).fc, iv (↑(C k).fr.length : Int), Value.bool (decide ((C k).size > q - us)), Value.pointer (some (Addr.mk cb (k * (3 : Nat)) none)), Value.pointer (some (Addr.mk cb (k * (3 : Nat)) none)), Value.pointer (some (Addr.mk cb (k * (3 : Nat)) none)), iv (C k).size, pv r 0, pv r 0, pv r 0, iv q, pv r 0, pv r 0, pv r 1, iv us, iv (q - us), Value.bool (decide ((C k).size > q - us)), tu, Value.bool (decide ((↑(C k).fr.length : Int) = (0 : Int))), iv (↑(C k).fr.length : Int), Value.bool (decide ((↑(C k).fr.length : Int) = (0 : Int))), tu, iv pk, Value.bool (decide (pk < (0 : Int))), iv pk, iv (pk + (1 : Int)), iv ((0 : Int) - (pk + (1 : Int))), tu, tu, tu, tu, tu, tu, tu, tu, tu, tu, tu, tu, tu, tu, tu, tu, tu, tu, tu, tu, tu, tu, tu, tu, tu, tu, tu, tu, tu, tu, tu, tu, tu, tu, tu, tu, tu, tu, tu, tu, tu, tu, tu] : List Value).getD j9 undef) ?_))
      · rfl
      · dsimp only; rw [if_pos (by omega)]; omega
  rintro ⟨y, J⟩ hy
  dsimp only at hy
  (focus
    refine Xg.At.same (T' := [pv p 0, iv (↑id : Int), iv size, iv y, tu, tu, pv xb1 0, tu, pv xb2 0, iv 0, pv r 0, iv (↑k : Int), Value.pointer (some (Addr.mk cb (k * (3 : Nat)) none)), iv (↑(C k).fr.length : Int), tu, pv p 0, iv (↑id : Int), pv r 0, pv r 0, Value.bool false, tu, pv p 0, pv p 0, pv p 0, Value.slice (some (Addr.mk cb (0 : Nat) none)) nc cc, Value.func (Fn.func (40 : Nat)) #[] #[pv xb1 0], iv (↑k : Int), iv size, Value.bool (decide (size < (1 : Int))), Value.bool false, iv (↑k : Int), Value.bool false, Value.bool false, tu, pv p 0, pv p 0, pv p 0, Value.slice (some (Addr.mk cb (0 : Nat) none)) nc cc, iv (↑k : Int), Value.pointer (some (Addr.mk cb (k * (3 : Nat)) none)), Value.pointer (some (Addr.mk cb (k * (3 : Nat)) none)), Value.pointer (some (Addr.mk cb (k * (3 : Nat)) none)), Value.pointer (some (Addr.mk cb (k * (3 : Nat) + (1 : Nat)) none)), Value.pointer (some (Addr.mk cb (k * (3 : Nat) + (1 : Nat)) none)), Value.slice (C k).fa (C k).fr.length (C k).fc, iv (↑(C k).fr.length : Int), Value.bool (decide ((C k).size > q - us)), Value.pointer (some (Addr.mk cb (k * (3 : Nat)) none)), Value.pointer (some (Addr.mk cb (k * (3 : Nat)) none)), Value.pointer (some (Addr.mk cb (k * (3 : Nat)) none)), iv (C k).size, pv r 0, pv r 0, pv r 0, iv q, pv r 0, pv r 0, pv r 1, iv us, iv (q - us), Value.bool (decide ((C k).size > q - us)), tu, Value.bool (decide ((↑(C k).fr.length : Int) = (0 : Int))), iv (↑(C k).fr.length : Int), Value.bool (decide ((↑(C k).fr.length : Int) = (0 : Int))), tu, iv pk, Value.bool (decide (pk < (0 : Int))), J 68, J 69, J 70, tu, tu, tu, tu, tu, tu, tu, tu, tu, tu, tu, tu, tu, tu, tu, tu, tu, tu, tu, tu, tu, tu, tu, tu, tu, tu, tu, tu, tu, tu, tu, tu, tu, tu, tu, tu, tu, tu, tu, tu, tu, tu, tu]) (L' := [HG p cb nc cc bb nb bc ab na, PtP ab na u, CG cb nc sp C, BG bb nb sq B, R2 r q us ta tk.length tc, I2 (C k).fa (C k).fc (C k).fr, I2 ta tc tk, row xb2 (42 : TypeId) [iv 0, iv 0, iv 0]]) (by kernel_rfl) rfl ?_)
  rw [← hy] at hi
  have hy0 : 0 ≤ y ∧ y ≤ 9223372036854775807 := by rw [hy]; split <;> omega
  rw [hi] at ht
  (focus
    refine Xg.at_seq ?_
    refine Xg.at_draw [6] [] (by kernel_rfl) ?_
    refine Xg.any_pure ((Value.pointer (some (Addr.mk cb (k * (3 : Nat)) none)))) 0 (by kernel_rfl) rfl (by kernel_rfl) (by kernel_rfl) (by kernel_rfl) (by kernel_rfl) rfl (fun _ => by kernel_rfl) ?_
    refine Xg.any_pure ((Value.pointer (some (Addr.mk cb (k * (3 : Nat)) none)))) 1 (by kernel_rfl) rfl (by kernel_rfl) (by kernel_rfl) (by kernel_rfl) (by kernel_rfl) rfl (fun _ => by kernel_rfl) ?_
    refine Xg.any_pure ((Value.pointer (some (Addr.mk cb (k * (3 : Nat) + (1 : Nat)) none)))) 2 (by kernel_rfl) rfl (by kernel_rfl) (by kernel_rfl) (by kernel_rfl) (by kernel_rfl) rfl (fun _ => by kernel_rfl) ?_
    refine Xg.any_pure ((iv y)) 3 (by kernel_rfl) rfl (by kernel_rfl) (by kernel_rfl) (by kernel_rfl) (by kernel_rfl) rfl (fun _ => by kernel_rfl) ?_
    refine Xg.any_pure ((iv (↑(C k).fr.length : Int))) 4 (by kernel_rfl) rfl (by kernel_rfl) (by kernel_rfl) (by kernel_rfl) (by kernel_rfl) rfl (fun _ => by kernel_rfl) ?_
    refine Xg.any_pure (.int .i64 (y % ((↑(C k).fr.length : Int)))) 5 (by kernel_rfl) rfl (by kernel_rfl) (by kernel_rfl) (by kernel_rfl) (by kernel_rfl) rfl (fun _ => Xg.run_rem (k1 := .i64) (m := y) (e := ((↑(C k).fr.length : Int))) (by kernel_rfl) (by kernel_rfl) (by omega) (by omega)) ?_
    refine Xg.any_each [6] (by kernel_rfl) rfl ⟨?_, trivial⟩
    refine Xg.comes_act rfl (by kernel_rfl) (by kernel_rfl) (Xg.opx_call1' [2, 5] [CG cb nc sp (updF C k (Cls.mk (C k).size (C k).fa (C k).fc ((C k).fr.eraseIdx i))), I2 (C k).fa (C k).fc ((C k).fr.eraseIdx i), HG p cb nc cc bb nb bc ab na, PtP ab na u, BG bb nb sq B, R2 r q us ta tk.length tc, I2 ta tc tk, row xb2 (42 : TypeId) [iv 0, iv 0, iv 0]] (fun _ => by kernel_rfl) (@ht ) (by kernel_rfl) (by kernel_rfl) (by kernel_rfl) ?_)
    refine Xg.acts Xg.owes_nil ?_
    refine Xg.any_pure ((iv (↑v : Int))) 7 (by kernel_rfl) rfl (by kernel_rfl) (by kernel_rfl) (by kernel_rfl) (by kernel_rfl) rfl (fun _ => by kernel_rfl) ?_
    refine Xg.any_nil (by kernel_rfl) ?_
    refine Xg.at_seq ?_)
  obtain ⟨D, hD⟩ : ∃ D, updF C k ⟨(C k).size, (C k).fa, (C k).fc, (C k).fr.eraseIdx i⟩ = D := ⟨_, rfl⟩
  have hDs : (D k).size = (z : Int) := by rw [← hD, updF_same]; exact hz
  rw [hD]
  clear hx ht ho
  (focus
    refine Xg.at_cut (α := (Option Addr) × (Nat → Value)) (fun x9 => ((fun x => x.isNone = false) : (Option Addr) → Prop) x9.1) (fun x9 => Xg.headT [pv p 0, iv (↑id : Int), iv size, iv y, tu, tu, pv xb1 0, tu, pv xb2 0, iv 0, pv r 0, iv (↑k : Int), Value.pointer (some (Addr.mk cb (k * (3 : Nat)) none)), iv (↑(C k).fr.length : Int), iv (↑v : Int), pv p 0, iv (↑id : Int), pv r 0, pv r 0, Value.bool false, tu, pv p 0, pv p 0, pv p 0, Value.slice (some (Addr.mk cb (0 : Nat) none)) nc cc, Value.func (Fn.func (40 : Nat)) #[] #[pv xb1 0], iv (↑k : Int), iv size, Value.bool (decide (size < (1 : Int))), Value.bool false, iv (↑k : Int), Value.bool false, Value.bool false, tu, pv p 0, pv p 0, pv p 0, Value.slice (some (Addr.mk cb (0 : Nat) none)) nc cc, iv (↑k : Int), Value.pointer (some (Addr.mk cb (k * (3 : Nat)) none)), Value.pointer (some (Addr.mk cb (k * (3 : Nat)) none)), Value.pointer (some (Addr.mk cb (k * (3 : Nat)) none)), Value.pointer (some (Addr.mk cb (k * (3 : Nat) + (1 : Nat)) none)), Value.pointer (some (Addr.mk cb (k * (3 : Nat) + (1 : Nat)) none)), Value.slice (C k).fa (C k).fr.length (C k).fc, iv (↑(C k).fr.length : Int), Value.bool (decide ((C k).size > q - us)), Value.pointer (some (Addr.mk cb (k * (3 : Nat)) none)), Value.pointer (some (Addr.mk cb (k * (3 : Nat)) none)), Value.pointer (some (Addr.mk cb (k * (3 : Nat)) none)), iv (C k).size, pv r 0, pv r 0, pv r 0, iv q, pv r 0, pv r 0, pv r 1, iv us, iv (q - us), Value.bool (decide ((C k).size > q - us)), tu, Value.bool (decide ((↑(C k).fr.length : Int) = (0 : Int))), iv (↑(C k).fr.length : Int), Value.bool (decide ((↑(C k).fr.length : Int) = (0 : Int))), tu, iv pk, Value.bool (decide (pk < (0 : Int))), J 68, J 69, J 70, Value.pointer (some (Addr.mk cb (k * (3 : Nat)) none)), Value.pointer (some (Addr.mk cb (k * (3 : Nat)) none)), Value.pointer (some (Addr.mk cb (k * (3 : Nat) + (1 : Nat)) none)), iv y, iv (↑(C k).fr.length : Int), iv (y % (↑(C k).fr.length : Int)), iv (↑v : Int), tu, tu, tu, tu, tu, tu, tu, tu, tu, tu, tu, tu, tu, tu, tu, tu, tu, tu, tu, tu, tu, tu, tu, tu, tu, tu, tu, tu, tu, tu, tu, tu, tu, tu, tu, tu] [78, 79, 80, 81, 82, 83, 84, 85, 86, 87, 88, 89] (((fun _ => []) : (Option Addr) → List (Nat × Go.Value)) x9.1) x9.2) (fun x9 => ((fun x => [HG p cb nc cc bb nb bc ab na, PtP ab na u, CG cb nc sp D, BG bb nb sq (updF B v ⟨(B v).cls, x, z, z⟩), R2 r q us ta tk.length tc, I2 (C k).fa (C k).fc ((C k).fr.eraseIdx i), I2 ta tc tk, row xb2 42 [.int .i64 0, .int .i64 0, .int .i64 0], Y2 x z (List.replicate z 0)]) : (Option Addr) → List Go.Sl.HP) x9.1) (fun kk hk => ?_) ?_)
  · (focus
      refine Xg.at_draw [9, 12] [(3, [0, 1, 2, 3, 4, 5, 6, 7, 8, 9], Xg.CellIs (p) (((1 : Nat))) ((Value.slice (some (Addr.mk bb (0 : Nat) none)) nb bc))), (8, [0, 1, 2, 3, 4, 5, 6, 7, 8], Xg.CellIs (cb) ((k * (3 : Nat))) ((iv (D k).size)))] (by kernel_rfl) ?_
      refine Xg.any_pure ((pv p 0)) 0 (by kernel_rfl) rfl (by kernel_rfl) (by kernel_rfl) (by kernel_rfl) (by kernel_rfl) rfl (fun _ => by kernel_rfl) ?_
      refine Xg.any_pure ((pv p 0)) 1 (by kernel_rfl) rfl (by kernel_rfl) (by kernel_rfl) (by kernel_rfl) (by kernel_rfl) rfl (fun _ => by kernel_rfl) ?_
      refine Xg.any_pure ((pv p 1)) 2 (by kernel_rfl) rfl (by kernel_rfl) (by kernel_rfl) (by kernel_rfl) (by kernel_rfl) rfl (fun _ => by kernel_rfl) ?_
      refine Xg.any_reads (Value.slice (some (Addr.mk bb (0 : Nat) none)) nb bc) 3 0 (by kernel_rfl) rfl (by kernel_rfl) (by kernel_rfl) (by kernel_rfl) (by kernel_rfl) rfl rfl (by kernel_rfl) (Xg.cell_now (b := p) (off := ((1 : Nat))) 2 rfl (by kernel_rfl)) (fun _ h => Xg.run_load (by kernel_rfl) (by kernel_rfl) h) ?_
      refine Xg.any_pure ((iv (↑v : Int))) 4 (by kernel_rfl) rfl (by kernel_rfl) (by kernel_rfl) (by kernel_rfl) (by kernel_rfl) rfl (fun _ => by kernel_rfl) ?_
      refine Xg.any_pure ((Value.pointer (some (Addr.mk cb (k * (3 : Nat)) none)))) 5 (by kernel_rfl) rfl (by kernel_rfl) (by kernel_rfl) (by kernel_rfl) (by kernel_rfl) rfl (fun _ => by kernel_rfl) ?_
      refine Xg.any_pure ((Value.pointer (some (Addr.mk cb (k * (3 : Nat)) none)))) 6 (by kernel_rfl) rfl (by kernel_rfl) (by kernel_rfl) (by kernel_rfl) (by kernel_rfl) rfl (fun _ => by kernel_rfl) ?_
      refine Xg.any_pure ((Value.pointer (some (Addr.mk cb (k * (3 : Nat)) none)))) 7 (by kernel_rfl) rfl (by kernel_rfl) (by kernel_rfl) (by kernel_rfl) (by kernel_rfl) rfl (fun _ => by kernel_rfl) ?_
      refine Xg.any_reads (iv (D k).size) 8 1 (by kernel_rfl) rfl (by kernel_rfl) (by kernel_rfl) (by kernel_rfl) (by kernel_rfl) rfl rfl (by kernel_rfl) (Xg.cell_now (b := cb) (off := (k * (3 : Nat))) 0 rfl (@Go.Proofs.Ytmplimmcjdkhlaa.g_c0 (nc) (sp) (D) (k) (by omega))) (fun _ h => Xg.run_load (by kernel_rfl) (by kernel_rfl) h) ?_
      refine Xg.any_each [9] (by kernel_rfl) rfl ⟨?_, trivial⟩
      refine Xg.comes_act rfl (by kernel_rfl) (by kernel_rfl) (Xg.opx_make_hid (elem := 5) (kd := .u8) (by_ := 1) (k1 := .i64) (k2 := .i64) (n := ((D k).size)) (c := ((D k).size)) ((D k).size.toNat) ((D k).size.toNat) (by kernel_rfl) (by kernel_rfl) (by kernel_rfl) (by kernel_rfl) (by omega) (by omega) (by omega) (by omega) fun xa1 xs1 xh1 xl1 xz1 => ?_)
      refine Xg.acts (Xg.owes_cell 3 rfl (by kernel_rfl) (Xg.owes_skip (by kernel_rfl) Xg.owes_nil)) ?_
      refine Xg.any_pure (.pointer (some (Addr.mk bb (v * (2 : Nat)) none))) 10 (by kernel_rfl) rfl (by kernel_rfl) (by kernel_rfl) (by kernel_rfl) (by kernel_rfl) rfl (Xg.run_ix_slice' (elem := 101) (b := bb) (off := ((0 : Nat))) (len := nb) (cap := bc) (kd := .i64) (e := ((↑v : Int))) 2 v (v * (2 : Nat)) (by kernel_rfl) (by kernel_rfl) (by kernel_rfl) (by kernel_rfl) rfl (by omega) (by omega)) ?_
      refine Xg.any_pure ((Value.pointer (some (Addr.mk bb (v * (2 : Nat) + (1 : Nat)) none)))) 11 (by kernel_rfl) rfl (by kernel_rfl) (by kernel_rfl) (by kernel_rfl) (by kernel_rfl) rfl (fun _ => by kernel_rfl) ?_
      refine Xg.any_each [12] (by kernel_rfl) rfl ⟨?_, trivial⟩
      refine Xg.comes_act rfl (by kernel_rfl) (by kernel_rfl) (Xg.opx_store_c (off := (v * (2 : Nat) + (1 : Nat))) (cs' := (bufR nb sq (updF B v (Buf.mk (B v).cls xa1 xs1.length (D k).size.toNat)))) 5 (Value.slice xa1 xs1.length (D k).size.toNat) (by kernel_rfl) rfl (by kernel_rfl) (by kernel_rfl) (by kernel_rfl) (@Go.Proofs.Ytmplimmcjdkhlaa.s_b1 (nb) (sq) (B) (v) (xa1) (xs1.length) (((D k).size.toNat)) (by omega)) ?_)
      refine Xg.acts (Xg.owes_skip (by kernel_rfl) (Xg.owes_skip (by kernel_rfl) Xg.owes_nil)) ?_
      refine Xg.any_nil (by kernel_rfl) ?_)
    have hz2 : (D k).size.toNat = z := by omega
    have hxl : xs1.length = (D k).size.toNat := by assumption
    have hxz : ∀ i : Nat, xs1.getD i 0 = 0 := by assumption
    have hxr : xs1 = List.replicate z 0 := by
      apply List.ext_getElem (by rw [hxl, List.length_replicate, hz2])
      intro i g1 g2
      have := hxz i
      simpa [List.getD, g1] using this
    subst hxr
    rw [List.length_replicate, hz2]
    (focus
      refine Xg.at_keep [3, 4, 1, 5, 6, 2, 7, 8, 0] (by kernel_rfl) ?_
      refine Xg.At.same (by kernel_rfl) ?_ (hk ((xa1), fun j9 => ([pv p 0, iv (↑id : Int), iv size, iv y, tu, tu, pv xb1 0, tu, pv xb2 0, iv 0, pv r 0, iv (↑k : Int), Value.pointer (some (Addr.mk cb (k * (3 : Nat)) none)), iv (↑(C k).fr.length : Int), iv (↑v : Int), pv p 0, iv (↑id : Int), pv r 0, pv r 0, Value.bool false, tu, pv p 0, pv p 0, pv p 0, Value.slice (some (Addr.mk cb (0 : Nat) none)) nc cc, Value.func (Fn.func (40 : Nat)) #[] #[pv xb1 0], iv (↑k : Int), iv size, Value.bool (decide (size < (1 : Int))), Value.bool false, iv (↑k : Int), Value.bool false, Value.bool false, tu, pv p 0, pv p 0, pv p 0, Value.slice (some (Addr.mk cb (0 : Nat) none)) nc cc, iv (↑k : Int), Value.pointer (some (Addr.mk cb (k * (3 : Nat)) none)), Value.pointer (some (Addr.mk cb (k * (3 : Nat)) none)), Value.pointer (some (Addr.mk cb (k * (3 : Nat)) none)), Value.pointer (some (Addr.mk cb (k * (3 : Nat) + (1 : Nat)) none)), Value.pointer (some (Addr.mk cb (k * (3 : Nat) + (1 : Nat)) none)), Value.slice (C k).fa (C k).fr.length (C k).fc, iv (↑(C k).fr.length : Int), Value.bool (decide ((C k).size > q - us)), Value.pointer (some (Addr.mk cb (k * (3 : Nat)) none)), Value.pointer (some (Addr.mk cb (k * (3 : Nat)) none)), Value.pointer (some (Addr.mk cb (k * (3 : Nat)) none)), iv (C k).size, pv r 0, pv r 0, pv r 0, iv q, pv r 0, pv r 0, pv r 1, iv us, iv (q - us), Value.bool (decide ((C k).size > q - us)), tu, Value.bool (decide ((↑(C k).fr.length : Int) = (0 : Int))), iv (↑(C k).fr.length : Int), Value.bool (decide ((↑(C k).fr.length : Int) = (0 : Int))), tu, iv pk, Value.bool (decide (pk < (0 : Int))), J 68, J 69, J 70, Value.pointer (some (Addr.mk cb (k * (3 : Nat)) none)), Value.pointer (some (Addr.mk cb (k * (3 : Nat)) none)), Value.pointer (some (Addr.mk cb (k * (3 : Nat) + (1 : Nat)) none)), iv y, iv (↑(C k).fr.length : Int), iv (y % (↑(C k).fr.length : Int)), iv (↑v : Int), pv p 0, pv p 0, pv p 1, Value.slice (some (Addr.mk bb (0 : Nat) none)) nb bc, iv (↑v : Int), Value.pointer (some (Addr.mk cb (k * (3 : Nat)) none)), Value.pointer (some (Addr.mk cb (k * (3 : Nat)) none)), Value.pointer (some (Addr.mk cb (k * (3 : Nat)) none)), iv (D k).size, Value.slice xa1 z z, Value.pointer (some (Addr.mk bb (v * (2 : Nat)) none)), Value.pointer (some (Addr.mk bb (v * (2 : Nat) + (1 : Nat)) none)), tu, tu, tu, tu, tu, tu, tu, tu, tu, tu, tu, tu, tu, tu, tu, tu, tu, tu, tu, tu, tu, tu, tu, tu] : List Value).getD j9 undef) ?_))
    · rfl
    · assumption
  rintro ⟨xa, J2⟩ hxa
  dsimp only at hxa
  (focus
    refine Xg.At.same (T' := [pv p 0, iv (↑id : Int), iv size, iv y, tu, tu, pv xb1 0, tu, pv xb2 0, iv 0, pv r 0, iv (↑k : Int), Value.pointer (some (Addr.mk cb (k * (3 : Nat)) none)), iv (↑(C k).fr.length : Int), iv (↑v : Int), pv p 0, iv (↑id : Int), pv r 0, pv r 0, Value.bool false, tu, pv p 0, pv p 0, pv p 0, Value.slice (some (Addr.mk cb (0 : Nat) none)) nc cc, Value.func (Fn.func (40 : Nat)) #[] #[pv xb1 0], iv (↑k : Int), iv size, Value.bool (decide (size < (1 : Int))), Value.bool false, iv (↑k : Int), Value.bool false, Value.bool false, tu, pv p 0, pv p 0, pv p 0, Value.slice (some (Addr.mk cb (0 : Nat) none)) nc cc, iv (↑k : Int), Value.pointer (some (Addr.mk cb (k * (3 : Nat)) none)), Value.pointer (some (Addr.mk cb (k * (3 : Nat)) none)), Value.pointer (some (Addr.mk cb (k * (3 : Nat)) none)), Value.pointer (some (Addr.mk cb (k * (3 : Nat) + (1 : Nat)) none)), Value.pointer (some (Addr.mk cb (k * (3 : Nat) + (1 : Nat)) none)), Value.slice (C k).fa (C k).fr.length (C k).fc, iv (↑(C k).fr.length : Int), Value.bool (decide ((C k).size > q - us)), Value.pointer (some (Addr.mk cb (k * (3 : Nat)) none)), Value.pointer (some (Addr.mk cb (k * (3 : Nat)) none)), Value.pointer (some (Addr.mk cb (k * (3 : Nat)) none)), iv (C k).size, pv r 0, pv r 0, pv r 0, iv q, pv r 0, pv r 0, pv r 1, iv us, iv (q - us), Value.bool (decide ((C k).size > q - us)), tu, Value.bool (decide ((↑(C k).fr.length : Int) = (0 : Int))), iv (↑(C k).fr.length : Int), Value.bool (decide ((↑(C k).fr.length : Int) = (0 : Int))), tu, iv pk, Value.bool (decide (pk < (0 : Int))), J 68, J 69, J 70, Value.pointer (some (Addr.mk cb (k * (3 : Nat)) none)), Value.pointer (some (Addr.mk cb (k * (3 : Nat)) none)), Value.pointer (some (Addr.mk cb (k * (3 : Nat) + (1 : Nat)) none)), iv y, iv (↑(C k).fr.length : Int), iv (y % (↑(C k).fr.length : Int)), iv (↑v : Int), J2 78, J2 79, J2 80, J2 81, J2 82, J2 83, J2 84, J2 85, J2 86, J2 87, J2 88, J2 89, tu, tu, tu, tu, tu, tu, tu, tu, tu, tu, tu, tu, tu, tu, tu, tu, tu, tu, tu, tu, tu, tu, tu, tu]) (L' := [HG p cb nc cc bb nb bc ab na, PtP ab na u, CG cb nc sp D, BG bb nb sq (updF B v (Buf.mk (B v).cls (xa, J2).fst z z)), R2 r q us ta tk.length tc, I2 (C k).fa (C k).fc ((C k).fr.eraseIdx i), I2 ta tc tk, row xb2 (42 : TypeId) [iv 0, iv 0, iv 0], Y2 (xa, J2).fst z (List.replicate z (0 : Int))]) (by kernel_rfl) rfl ?_)
  have hls : Does Try.prog 42 [.pointer (some ⟨p, 0, none⟩), .int .i64 (v : Nat)] [HG p cb nc cc bb nb bc ab na, CG cb nc sp D, BG bb nb sq (updF B v ⟨(B v).cls, xa, z, z⟩)] (Ret (.agg #[.int .i64 (v : Nat), .int .i64 (k : Nat), .int .i64 (z : Nat)]) [HG p cb nc cc bb nb bc ab na, CG cb nc sp D, BG bb nb sq (updF B v ⟨(B v).cls, xa, z, z⟩)]) := by
    have h0 := leaseG p cb nc cc bb nb bc ab na sp sq D (updF B v ⟨(B v).cls, xa, z, z⟩) v hvb (by rw [updF_same]; dsimp only; omega) hnb hnc
    have e3 : (updF B v ⟨(B v).cls, xa, z, z⟩ v).cls = k := by rw [updF_same]; exact hcl
    rw [e3, hDs] at h0
    exact h0
  (focus
    refine Xg.at_seq ?_
    refine Xg.at_draw [11] [(3, [0, 1, 2, 3, 4, 5, 6, 7], Xg.CellIs (r) (((1 : Nat))) ((iv us))), (7, [0, 1, 2, 3, 4, 5, 6, 7], Xg.CellIs (cb) ((k * (3 : Nat))) ((iv (D k).size)))] (by kernel_rfl) ?_
    refine Xg.any_pure ((pv r 0)) 0 (by kernel_rfl) rfl (by kernel_rfl) (by kernel_rfl) (by kernel_rfl) (by kernel_rfl) rfl (fun _ => by kernel_rfl) ?_
    refine Xg.any_pure ((pv r 0)) 1 (by kernel_rfl) rfl (by kernel_rfl) (by kernel_rfl) (by kernel_rfl) (by kernel_rfl) rfl (fun _ => by kernel_rfl) ?_
    refine Xg.any_pure ((pv r 1)) 2 (by kernel_rfl) rfl (by kernel_rfl) (by kernel_rfl) (by kernel_rfl) (by kernel_rfl) rfl (fun _ => by kernel_rfl) ?_
    refine Xg.any_reads (iv us) 3 0 (by kernel_rfl) rfl (by kernel_rfl) (by kernel_rfl) (by kernel_rfl) (by kernel_rfl) rfl rfl (by kernel_rfl) (Xg.cell_now (b := r) (off := ((1 : Nat))) 4 rfl (by kernel_rfl)) (fun _ h => Xg.run_load (by kernel_rfl) (by kernel_rfl) h) ?_
    refine Xg.any_pure ((Value.pointer (some (Addr.mk cb (k * (3 : Nat)) none)))) 4 (by kernel_rfl) rfl (by kernel_rfl) (by kernel_rfl) (by kernel_rfl) (by kernel_rfl) rfl (fun _ => by kernel_rfl) ?_
    refine Xg.any_pure ((Value.pointer (some (Addr.mk cb (k * (3 : Nat)) none)))) 5 (by kernel_rfl) rfl (by kernel_rfl) (by kernel_rfl) (by kernel_rfl) (by kernel_rfl) rfl (fun _ => by kernel_rfl) ?_
    refine Xg.any_pure ((Value.pointer (some (Addr.mk cb (k * (3 : Nat)) none)))) 6 (by kernel_rfl) rfl (by kernel_rfl) (by kernel_rfl) (by kernel_rfl) (by kernel_rfl) rfl (fun _ => by kernel_rfl) ?_
    refine Xg.any_reads (iv (D k).size) 7 1 (by kernel_rfl) rfl (by kernel_rfl) (by kernel_rfl) (by kernel_rfl) (by kernel_rfl) rfl rfl (by kernel_rfl) (Xg.cell_now (b := cb) (off := (k * (3 : Nat))) 2 rfl (@Go.Proofs.Ytmplimmcjdkhlaa.g_c0 (nc) (sp) (D) (k) (by omega))) (fun _ h => Xg.run_load (by kernel_rfl) (by kernel_rfl) h) ?_
    refine Xg.any_int .i64 (IntKind.wrap .i64 ((us + (D k).size))) 8 (by kernel_rfl) rfl (by kernel_rfl) (by kernel_rfl) (by kernel_rfl) (by kernel_rfl) rfl (fun _ => by kernel_rfl) (Xg.wrap_i64_in (by omega)) ?_
    refine Xg.any_pure ((pv r 0)) 9 (by kernel_rfl) rfl (by kernel_rfl) (by kernel_rfl) (by kernel_rfl) (by kernel_rfl) rfl (fun _ => by kernel_rfl) ?_
    refine Xg.any_pure ((pv r 1)) 10 (by kernel_rfl) rfl (by kernel_rfl) (by kernel_rfl) (by kernel_rfl) (by kernel_rfl) rfl (fun _ => by kernel_rfl) ?_
    refine Xg.any_each [11] (by kernel_rfl) rfl ⟨?_, trivial⟩
    refine Xg.comes_act rfl (by kernel_rfl) (by kernel_rfl) (Xg.opx_store1 (off := 1) 4 (iv (us + (D k).size)) (by kernel_rfl) rfl (by kernel_rfl) (by kernel_rfl) (by kernel_rfl) (Nat.le_of_ble_eq_true (by kernel_rfl)) ?_)
    refine Xg.acts (Xg.owes_skip (by kernel_rfl) (Xg.owes_skip (by kernel_rfl) Xg.owes_nil)) ?_
    refine Xg.any_nil (by kernel_rfl) ?_
    refine Xg.at_seq ?_
    refine Xg.at_region ?_
    refine Xg.ops_op (by kernel_rfl) (Xg.opx_pure ((pv r 0)) rfl (fun _ => by kernel_rfl) ?_)
    refine Xg.ops_op (by kernel_rfl) (Xg.opx_pure ((pv r 0)) rfl (fun _ => by kernel_rfl) ?_)
    refine Xg.ops_op (by kernel_rfl) (Xg.opx_pure ((pv r 0)) rfl (fun _ => by kernel_rfl) ?_)
    refine Xg.ops_op (by kernel_rfl) (Xg.opx_pure ((pv r 2)) rfl (fun _ => by kernel_rfl) ?_)
    refine Xg.ops_op (by kernel_rfl) (Xg.opx_load (b := r) (off := ((2 : Nat))) 4 (Value.slice ta tk.length tc) rfl (by kernel_rfl) (by kernel_rfl) (by kernel_rfl) ?_)
    refine Xg.ops_op (by kernel_rfl) (Xg.opx_pure ((iv (↑v : Int))) rfl (fun _ => by kernel_rfl) ?_)
    refine Xg.ops_op (by kernel_rfl) (Xg.opx_bs (elem := 3) 1 [iv (↑v : Int)] [iv (↑v : Int)] (by kernel_rfl) (by kernel_rfl) (by decide) rfl (by kernel_rfl) (by kernel_rfl) (by kernel_rfl) (by kernel_rfl) fun xb3 => ?_)
    refine Xg.ops_op (by kernel_rfl) (Xg.opx_append_ints (kd := .i64) (yv := (Value.slice (some (Addr.mk xb3 (0 : Nat) none)) (1 : Nat) (1 : Nat))) (m := ((1 : Nat))) (xs := tk) (elem := 3) 7 8 [(↑v : Int)] rfl (by kernel_rfl) (by kernel_rfl) (by kernel_rfl) (by kernel_rfl) (by first | rfl | assumption | omega | (simp; done) | (simp; omega)) (fun _ hS => Xg.row_rd hS 0 rfl (by kernel_rfl)) (by first | omega | (simp only [List.length_nil, List.length_cons]; omega) | (simp; omega)) (by first | omega | (simp only [List.length_nil, List.length_cons]; omega) | (simp; omega)) fun xa1 xc1 => ?_)
    have xl1 : (tk ++ [(↑v : Int)] : List Int).length = (tk : List Int).length + ((1 : Nat)) := by first | (simp; done) | (simp; omega)
    refine Xg.ops_op (by kernel_rfl) (Xg.opx_pure ((pv r 0)) rfl (fun _ => by kernel_rfl) ?_)
    refine Xg.ops_op (by kernel_rfl) (Xg.opx_pure ((pv r 2)) rfl (fun _ => by kernel_rfl) ?_)
    refine Xg.ops_op (by kernel_rfl) (Xg.opx_store1 (off := 2) 5 (Value.slice xa1 (tk ++ [(↑v : Int)]).length xc1) (by kernel_rfl) rfl (by kernel_rfl) (by kernel_rfl) (by kernel_rfl) (Nat.le_of_ble_eq_true (by kernel_rfl)) ?_)
    refine Xg.ops_nil ?_
    refine Xg.at_seq ?_
    refine Xg.at_region ?_
    refine Xg.ops_op (by kernel_rfl) (Xg.opx_pure ((pv p 0)) rfl (fun _ => by kernel_rfl) ?_)
    refine Xg.ops_op (by kernel_rfl) (Xg.opx_pure ((iv (↑v : Int))) rfl (fun _ => by kernel_rfl) ?_)
    refine Xg.ops_op (by kernel_rfl) (Xg.opx_call1' [1, 3, 4] [HG p cb nc cc bb nb bc ab na, CG cb nc sp D, BG bb nb sq (updF B v (Buf.mk (B v).cls xa z z)), row xb3 (3 : TypeId) [iv (↑v : Int)], PtP ab na u, row r (105 : TypeId) [iv q, iv (us + (D k).size), Value.slice xa1 (tk ++ [(↑v : Int)]).length xc1], I2 (C k).fa (C k).fc ((C k).fr.eraseIdx i), ints (3 : TypeId) IntKind.i64 xa1 xc1 (tk ++ [(↑v : Int)]), row xb2 (42 : TypeId) [iv 0, iv 0, iv 0], Y2 xa z (List.replicate z (0 : Int))] (fun _ => by kernel_rfl) (@hls ) (by kernel_rfl) (by kernel_rfl) (by kernel_rfl) ?_)
    refine Xg.ops_op (by kernel_rfl) (Xg.opx_storen 3 (off := 0) 8 [iv (↑v : Int), iv (↑k : Int), iv (↑z : Int)] (by kernel_rfl) rfl (by kernel_rfl) (by kernel_rfl) rfl (by kernel_rfl) (Nat.le_of_ble_eq_true (by kernel_rfl)) ?_)
    refine Xg.ops_op (by kernel_rfl) (Xg.opx_pure ((iv 0)) rfl (fun _ => by kernel_rfl) ?_)
    refine Xg.ops_nil ?_
    refine Xg.at_ret_feed (v := (Value.tuple #[Value.agg #[iv (↑v : Int), iv (↑k : Int), iv (↑z : Int)], iv 0])) [(Addr.mk xb2 (0 : Nat) none), (Addr.mk xb2 (1 : Nat) none), (Addr.mk xb2 (2 : Nat) none)] [iv (↑v : Int), iv (↑k : Int), iv (↑z : Int)] [0, 4, 1, 2, 5, 6, 9, 7] [HG p cb nc cc bb nb bc ab na, PtP ab na u, CG cb nc sp D, BG bb nb sq (updF B v (Buf.mk (B v).cls xa z z)), row r (105 : TypeId) [iv q, iv (us + (D k).size), Value.slice xa1 (tk ++ [(↑v : Int)]).length xc1], I2 (C k).fa (C k).fc ((C k).fr.eraseIdx i), Y2 xa z (List.replicate z (0 : Int)), ints (3 : TypeId) IntKind.i64 xa1 xc1 (tk ++ [(↑v : Int)])] Go.Proofs.Try.func17 (by kernel_rfl) (Xg.cells_cons (b := xb2) (off := 0) 8 rfl (by kernel_rfl) (Xg.cells_cons (b := xb2) (off := 1) 8 rfl (by kernel_rfl) (Xg.cells_cons (b := xb2) (off := 2) 8 rfl (by kernel_rfl) Xg.cells_nil))) (by kernel_rfl) (by kernel_rfl) ?_
    refine ⟨((xa, xa1, xc1)), ?_, by kernel_rfl, ?_⟩
    rotate_left)
  · rw [hDs]
  · exact hxa
end
end Go.Proofs.Ytmplimmcjdkhlaa

/- The arena package, any Pool: one part for the whole Pool; Take over it. -/
namespace Go.Proofs.Ytmplimmcjdkhlaa
open Go.Sl Go.Xg
set_option linter.unusedVariables false
set_option linter.unusedSimpArgs false
set_option linter.unnecessarySimpa false
set_option maxHeartbeats 4000000
set_option maxRecDepth 100000

/-- An arena that is open. -/
structure Ar where
  q : Int
  us : Int
  tk : List Int
deriving Inhabited
/-- A Pool. -/
structure Po where
  nc : Nat
  size : Nat → Nat
  fr : Nat → List Int
  nb : Nat
  cl : Nat → Nat
  bs : Nat → Option (List Int)
  na : Nat
  ar : Nat → Option Ar
/-- Where it lies. -/
structure PAd (σ : Po) where
  cb : Nat
  cc : Nat
  bb : Nat
  bc : Nat
  ab : Nat
  sp : List Value
  sq : List Value
  C : Nat → Cls
  B : Nat → Buf
  u : Nat → Option Nat
  T : Nat → Option Addr × Nat
  hC : ∀ k, k < σ.nc → (C k).size = (σ.size k : Nat) ∧ (C k).fr = σ.fr k
  hB : ∀ b, b < σ.nb → (B b).cls = σ.cl b
  hb : ∀ b l, b < σ.nb → σ.bs b = some l → (B b).n = l.length ∧ (B b).c = l.length ∧ (B b).a.isNone = false
  hu : ∀ i, i < σ.na → (u i).isSome = (σ.ar i).isSome

def byP (o : Option (List Int)) (x : Buf) : HP := match o with
  | none => Xg.emp
  | some l => Y2 x.a x.c l
def arP (o : Option Ar) (r : Option Nat) (t : Option Addr × Nat) : HP := match o, r with
  | some a, some b => seps [R2 b a.q a.us t.1 a.tk.length t.2, I2 t.1 t.2 a.tk]
  | _, _ => Xg.emp
def S0 (C : Nat → Cls) (n : Nat) : HP := starN n fun k => I2 (C k).fa (C k).fc (C k).fr
def S1 (bs : Nat → Option (List Int)) (B : Nat → Buf) (n : Nat) : HP := starN n fun b => byP (bs b) (B b)
def S2 (ar : Nat → Option Ar) (u : Nat → Option Nat) (T : Nat → Option Addr × Nat) (n : Nat) : HP := starN n fun i => arP (ar i) (u i) (T i)
def H0 (C : Nat → Cls) (n k : Nat) : HP := starN n (updF (fun k => I2 (C k).fa (C k).fc (C k).fr) k Xg.emp)
def H1 (bs : Nat → Option (List Int)) (B : Nat → Buf) (n k : Nat) : HP := starN n (updF (fun b => byP (bs b) (B b)) k Xg.emp)
def H2x (ar : Nat → Option Ar) (u : Nat → Option Nat) (T : Nat → Option Addr × Nat) (n k : Nat) : HP := starN n (updF (fun i => arP (ar i) (u i) (T i)) k Xg.emp)

section
variable {g w : World} {L : List HP} {n k : Nat} {C : Nat → Cls} {bs : Nat → Option (List Int)} {B : Nat → Buf} {ar : Nat → Option Ar} {u : Nat → Option Nat} {T : Nat → Option Addr × Nat}
theorem s0_take (hk : k < n) (h : SL g (S0 C n :: L) w) : SL g (I2 (C k).fa (C k).fc (C k).fr :: H0 C n k :: L) w := star_take hk h
theorem s0_put (x : Cls) (hk : k < n) (h : SL g (I2 x.fa x.fc x.fr :: H0 C n k :: L) w) : SL g (S0 (updF C k x) n :: L) w := by
  have h1 := star_put hk h
  rw [updF_map C k x (fun x => I2 x.fa x.fc x.fr)] at h1
  exact h1
theorem s0_back (hk : k < n) (h : SL g (I2 (C k).fa (C k).fc (C k).fr :: H0 C n k :: L) w) : SL g (S0 C n :: L) w := by
  have := s0_put (C k) hk h
  rwa [updF_self] at this
theorem s1_take {l : List Int} (hk : k < n) (e : bs k = some l) (h : SL g (S1 bs B n :: L) w) : SL g (Y2 (B k).a (B k).c l :: H1 bs B n k :: L) w := by
  have h1 := star_take hk h
  rw [e] at h1
  exact h1
theorem s1_none (hk : k < n) (e : bs k = none) (h : SL g (S1 bs B n :: L) w) : SL g (H1 bs B n k :: L) w := by
  have h1 := star_take hk h
  rw [e] at h1
  exact SL.emp_iff.1 h1
theorem s1_upd (o : Option (List Int)) (x : Buf) : updF (fun b => byP (bs b) (B b)) k (byP o x) = fun b => byP (updF bs k o b) (updF B k x b) := by
  funext b; unfold updF; split <;> rfl
theorem s1_put (l : List Int) (x : Buf) (hk : k < n) (h : SL g (Y2 x.a x.c l :: H1 bs B n k :: L) w) : SL g (S1 (updF bs k (some l)) (updF B k x) n :: L) w := by
  have h1 := star_put (X := byP (some l) x) hk h
  rw [s1_upd] at h1
  exact h1
theorem s1_putN (x : Buf) (hk : k < n) (h : SL g (H1 bs B n k :: L) w) : SL g (S1 (updF bs k none) (updF B k x) n :: L) w := by
  have h1 := star_put (X := byP none x) hk (SL.emp_iff.2 h)
  rw [s1_upd] at h1
  exact h1
theorem s2_upd (o : Option Ar) (r : Option Nat) (t : Option Addr × Nat) : updF (fun i => arP (ar i) (u i) (T i)) k (arP o r t) = fun i => arP (updF ar k o i) (updF u k r i) (updF T k t i) := by
  funext b; unfold updF; split <;> rfl
theorem s2_take {a : Ar} {b : Nat} (hk : k < n) (e1 : ar k = some a) (e2 : u k = some b) (h : SL g (S2 ar u T n :: L) w) : SL g (R2 b a.q a.us (T k).1 a.tk.length (T k).2 :: I2 (T k).1 (T k).2 a.tk :: H2x ar u T n k :: L) w := by
  have h1 := star_take hk h
  rw [e1, e2] at h1
  exact SL.flat.1 h1
theorem s2_none (hk : k < n) (e1 : ar k = none) (h : SL g (S2 ar u T n :: L) w) : SL g (H2x ar u T n k :: L) w := by
  have h1 := star_take hk h
  rw [e1] at h1
  exact SL.emp_iff.1 h1
theorem s2_put (a : Ar) (b : Nat) (t : Option Addr × Nat) (hk : k < n) (h : SL g (R2 b a.q a.us t.1 a.tk.length t.2 :: I2 t.1 t.2 a.tk :: H2x ar u T n k :: L) w) : SL g (S2 (updF ar k (some a)) (updF u k (some b)) (updF T k t) n :: L) w := by
  have h0 : SL g (seps [R2 b a.q a.us t.1 a.tk.length t.2, I2 t.1 t.2 a.tk] :: H2x ar u T n k :: L) w := SL.flat.2 h
  have h1 := star_put (X := arP (some a) (some b) t) hk h0
  rw [s2_upd] at h1
  exact h1
theorem s2_putN (t : Option Addr × Nat) (hk : k < n) (h : SL g (H2x ar u T n k :: L) w) : SL g (S2 (updF ar k none) (updF u k none) (updF T k t) n :: L) w := by
  have h1 := star_put (X := arP none none t) hk (SL.emp_iff.2 h)
  rw [s2_upd] at h1
  exact h1
theorem s2_back {a : Ar} {b : Nat} (hk : k < n) (e1 : ar k = some a) (e2 : u k = some b) (h : SL g (R2 b a.q a.us (T k).1 a.tk.length (T k).2 :: I2 (T k).1 (T k).2 a.tk :: H2x ar u T n k :: L) w) : SL g (S2 ar u T n :: L) w := by
  have h1 := s2_put a b (T k) hk h
  rw [← e1, ← e2, updF_self, updF_self, updF_self] at h1
  exact h1
theorem s1_back {l : List Int} (hk : k < n) (e : bs k = some l) (h : SL g (Y2 (B k).a (B k).c l :: H1 bs B n k :: L) w) : SL g (S1 bs B n :: L) w := by
  have h1 := s1_put l (B k) hk h
  rw [← e, updF_self, updF_self] at h1
  exact h1
end

def rowsP (σ : Po) (p : Nat) (a : PAd σ) : List HP := [HG p a.cb σ.nc a.cc a.bb σ.nb a.bc a.ab σ.na, CG a.cb σ.nc a.sp a.C, BG a.bb σ.nb a.sq a.B, PtP a.ab σ.na a.u, S0 a.C σ.nc, S1 σ.bs a.B σ.nb, S2 σ.ar a.u a.T σ.na]
def PoolS (p : Nat) (σ : Po) : HP := fun m => ∃ a : PAd σ, seps (rowsP σ p a) m
theorem pools_open {p : Nat} {σ : Po} {g w : World} {L : List HP} (h : SL g (PoolS p σ :: L) w) : ∃ a : PAd σ, SL g (rowsP σ p a ++ L) w := by
  obtain ⟨a, h⟩ := SL.ex.1 h
  exact ⟨a, SL.flat.1 h⟩
theorem pools_shut {p : Nat} {σ : Po} (a : PAd σ) {g w : World} {L : List HP} (h : SL g (rowsP σ p a ++ L) w) : SL g (PoolS p σ :: L) w := SL.ex.2 ⟨a, SL.flat.2 h⟩

/-- A contract over some of the parts is one over all. -/
theorem does_pool {p : Nat} {σ : Po} {X : List HP} {f : FuncId} {args : List Value} {β : Type} {q : β → Prop} {V' : β → Value} {QS : β → List HP}
    (h : ∀ a : PAd σ, ∃ (pre' K : List HP) (α : Type) (pp : α → Prop) (V : α → Value) (PS : α → List HP), Does Try.prog f args pre' (RetE pp V PS) ∧ (∀ g w F, SL g (rowsP σ p a ++ (X ++ F)) w → SL g (pre' ++ (K ++ F)) w) ∧
      ∀ x, pp x → ∀ g w F, SL g (PS x ++ (K ++ F)) w → ∃ y, q y ∧ V x = V' y ∧ SL g (QS y ++ F) w) : Does Try.prog f args (PoolS p σ :: X) (RetE q V' QS) := by
  constructor
  intro g F w hS cs
  obtain ⟨a, hS⟩ := pools_open (L := X ++ F) hS
  obtain ⟨pre', K, α, pp, V, PS, hd, h1, h2⟩ := h a
  obtain ⟨e, w', fr, ⟨v, ps, ⟨x, hx, rfl, rfl⟩, rfl, h3⟩, h4⟩ := hd.run g (K ++ F) w (h1 _ _ _ hS) cs
  obtain ⟨y, hy, hv, hs⟩ := h2 x hx _ _ _ h3
  exact ⟨_, w', fr, ⟨_, _, ⟨y, hy, hv, rfl⟩, rfl, hs⟩, h4⟩
theorem ret_e {f : FuncId} {args : List Value} {pre ps : List HP} {v : Value} (h : Does Try.prog f args pre (Ret v ps)) : Does Try.prog f args pre (RetE (fun _ : Unit => True) (fun _ => v) (fun _ => ps)) :=
  h.mono fun _ _ ⟨e1, e2⟩ => ⟨(), trivial, e1, e2⟩
theorem e_ret {f : FuncId} {args : List Value} {pre ps : List HP} {v : Value} (h : Does Try.prog f args pre (RetE (fun _ : Unit => True) (fun _ => v) (fun _ => ps))) : Does Try.prog f args pre (Ret v ps) :=
  h.mono fun _ _ ⟨_, _, e1, e2⟩ => ⟨e1, e2⟩

/-- All but one arena's parts. -/
def restP (σ : Po) (a : PAd σ) (id : Nat) : List HP := [S0 a.C σ.nc, S1 σ.bs a.B σ.nb, H2x σ.ar a.u a.T σ.na id]
theorem open_ar {σ : Po} {p id : Nat} {r : Ar} (hid : id < σ.na) (hr : σ.ar id = some r) (a : PAd σ) : ∃ b, a.u id = some b ∧ ∀ (g w : World) (F : List HP), SL g (rowsP σ p a ++ F) w →
    SL g ([HG p a.cb σ.nc a.cc a.bb σ.nb a.bc a.ab σ.na, PtP a.ab σ.na a.u, R2 b r.q r.us (a.T id).1 r.tk.length (a.T id).2, I2 (a.T id).1 (a.T id).2 r.tk, CG a.cb σ.nc a.sp a.C, BG a.bb σ.nb a.sq a.B] ++ (restP σ a id ++ F)) w := by
  have h := a.hu id hid
  rw [hr] at h
  obtain ⟨b, hb⟩ := Option.isSome_iff_exists.1 (h.trans rfl)
  refine ⟨b, hb, fun g w F hS => ?_⟩
  have h1 : SL g (S2 σ.ar a.u a.T σ.na :: _) w := hS.pull 6
  exact sl_keep (L := [R2 b r.q r.us (a.T id).1 r.tk.length (a.T id).2, I2 (a.T id).1 (a.T id).2 r.tk, H2x σ.ar a.u a.T σ.na id, HG p a.cb σ.nc a.cc a.bb σ.nb a.bc a.ab σ.na, CG a.cb σ.nc a.sp a.C, BG a.bb σ.nb a.sq a.B, PtP a.ab σ.na a.u, S0 a.C σ.nc, S1 σ.bs a.B σ.nb]) [3, 6, 0, 1, 4, 5, 7, 8, 2] rfl (s2_take hid hr hb h1)
theorem shut_ar {σ : Po} {p id b : Nat} {r : Ar} (hid : id < σ.na) (hr : σ.ar id = some r) (a : PAd σ) (hb : a.u id = some b) {g w : World} {F : List HP} (h : SL g ([HG p a.cb σ.nc a.cc a.bb σ.nb a.bc a.ab σ.na, PtP a.ab σ.na a.u, R2 b r.q r.us (a.T id).1 r.tk.length (a.T id).2, I2 (a.T id).1 (a.T id).2 r.tk, CG a.cb σ.nc a.sp a.C, BG a.bb σ.nb a.sq a.B] ++ (restP σ a id ++ F)) w) :
    SL g (rowsP σ p a ++ F) w := by
  have h1 := sl_keep (L := [HG p a.cb σ.nc a.cc a.bb σ.nb a.bc a.ab σ.na, PtP a.ab σ.na a.u, R2 b r.q r.us (a.T id).1 r.tk.length (a.T id).2, I2 (a.T id).1 (a.T id).2 r.tk, CG a.cb σ.nc a.sp a.C, BG a.bb σ.nb a.sq a.B, S0 a.C σ.nc, S1 σ.bs a.B σ.nb, H2x σ.ar a.u a.T σ.na id]) [2, 3, 8, 0, 4, 5, 1, 6, 7] rfl h
  have h2 := s2_back hid hr hb h1
  exact sl_keep (L := [S2 σ.ar a.u a.T σ.na, HG p a.cb σ.nc a.cc a.bb σ.nb a.bc a.ab σ.na, CG a.cb σ.nc a.sp a.C, BG a.bb σ.nb a.sq a.B, PtP a.ab σ.na a.u, S0 a.C σ.nc, S1 σ.bs a.B σ.nb]) [1, 2, 3, 4, 5, 6, 0] rfl h2

/-- Take: the state behind it. -/
def takeσ (σ : Po) (id : Nat) (r : Ar) (k i v : Nat) : Po := { σ with fr := updF σ.fr k ((σ.fr k).eraseIdx i), bs := updF σ.bs v (some (List.replicate (σ.size k) 0)), ar := updF σ.ar id (some ⟨r.q, r.us + σ.size k, r.tk ++ [(v : Int)]⟩) }

theorem takeS (p : Nat) (σ : Po) (id : Nat) (r : Ar) (hid : id < σ.na) (hr : σ.ar id = some r) (hna : σ.na ≤ 64) (hnb : σ.nb ≤ 100000) (hnc : σ.nc ≤ 100) (size pk : Int) (hpk : -9223372036854775808 ≤ pk ∧ pk ≤ 9223372036854775807) (k v : Nat) (hk : k < σ.nc) (hs0 : 1 ≤ size) (hs : size ≤ σ.size k) (hj : ∀ j, j < k → (σ.size j : Int) < size) (hz1 : σ.size k ≤ 65536) (hq : (σ.size k : Int) ≤ r.q - r.us) (hq1 : 0 ≤ r.us ∧ r.q ≤ 1000000000000) (hf : 0 < (σ.fr k).length) (hf1 : (σ.fr k).length ≤ 100000)
    (i : Nat) (hi : (i : Int) = (if pk < 0 then -(pk + 1) else pk) % ((σ.fr k).length : Int)) (hv : (σ.fr k).getD i 0 = (v : Nat)) (hvb : v < σ.nb) (hcl : σ.cl v = k) (hbv : σ.bs v = none) (htk : r.tk.length ≤ 100000) :
    Does Try.prog 17 [.pointer (some ⟨p, 0, none⟩), .int .i64 (id : Nat), .int .i64 size, .int .i64 pk] [PoolS p σ]
    (Ret (.tuple #[.agg #[.int .i64 (v : Nat), .int .i64 (k : Nat), .int .i64 (σ.size k : Nat)], .int .i64 0]) [PoolS p (takeσ σ id r k i v)]) := by
  refine e_ret (does_pool (X := []) fun a => ?_)
  obtain ⟨b, hb, ho⟩ := open_ar (p := p) hid hr a
  obtain ⟨hCs, hCf⟩ := a.hC k hk
  refine ⟨_, [H0 a.C σ.nc k, S1 σ.bs a.B σ.nb, H2x σ.ar a.u a.T σ.na id], _, _, _, _, takeG p a.cb σ.nc a.cc a.bb σ.nb a.bc a.ab σ.na a.u id b hid hna hb a.sp a.sq a.C a.B r.q r.us (a.T id).1 (a.T id).2 r.tk hnb hnc size pk hpk k v (σ.size k) hk hs0 (by rw [hCs]; exact hs) (fun j hjk => by rw [(a.hC j (by omega)).1]; exact hj j hjk) hCs hz1 hq hq1 (by rw [hCf]; exact hf) (by rw [hCf]; exact hf1) i (by rw [hCf]; exact hi) (by rw [hCf]; exact hv) hvb ((a.hB v hvb).trans hcl) htk, fun g w F hS => ?_, fun x hx g w F hS => ?_⟩
  · have h1 := ho g w F hS
    have h2 : SL g (S0 a.C σ.nc :: _) w := h1.pull 6
    exact sl_keep (L := [I2 (a.C k).fa (a.C k).fc (a.C k).fr, H0 a.C σ.nc k, HG p a.cb σ.nc a.cc a.bb σ.nb a.bc a.ab σ.na, PtP a.ab σ.na a.u, R2 b r.q r.us (a.T id).1 r.tk.length (a.T id).2, I2 (a.T id).1 (a.T id).2 r.tk, CG a.cb σ.nc a.sp a.C, BG a.bb σ.nb a.sq a.B, S1 σ.bs a.B σ.nb, H2x σ.ar a.u a.T σ.na id]) [2, 3, 6, 7, 4, 0, 5, 1, 8, 9] rfl (s0_take hk h2)
  · obtain ⟨xa, ta, tc⟩ := x
    dsimp only at hS hx
    rw [hCf, hCs] at hS
    have h1 := sl_keep (L := [HG p a.cb σ.nc a.cc a.bb σ.nb a.bc a.ab σ.na, PtP a.ab σ.na a.u, CG a.cb σ.nc a.sp (updF a.C k ⟨(σ.size k : Nat), (a.C k).fa, (a.C k).fc, (σ.fr k).eraseIdx i⟩), BG a.bb σ.nb a.sq (updF a.B v ⟨(a.B v).cls, xa, σ.size k, σ.size k⟩), R2 b r.q (r.us + σ.size k) ta (r.tk ++ [(v : Int)]).length tc, I2 (a.C k).fa (a.C k).fc ((σ.fr k).eraseIdx i), Y2 xa (σ.size k) (List.replicate (σ.size k) 0), I2 ta tc (r.tk ++ [(v : Int)]), H0 a.C σ.nc k, S1 σ.bs a.B σ.nb, H2x σ.ar a.u a.T σ.na id]) [9, 4, 7, 10, 5, 8, 6, 0, 2, 3, 1] rfl hS
    have h2 := s1_none hvb hbv h1
    have h3 : SL g (R2 b r.q (r.us + σ.size k) ta (r.tk ++ [(v : Int)]).length tc :: I2 ta tc (r.tk ++ [(v : Int)]) :: H2x σ.ar a.u a.T σ.na id :: _) w := sl_keep (L := [H1 σ.bs a.B σ.nb v, R2 b r.q (r.us + σ.size k) ta (r.tk ++ [(v : Int)]).length tc, I2 ta tc (r.tk ++ [(v : Int)]), H2x σ.ar a.u a.T σ.na id, I2 (a.C k).fa (a.C k).fc ((σ.fr k).eraseIdx i), H0 a.C σ.nc k, Y2 xa (σ.size k) (List.replicate (σ.size k) 0), HG p a.cb σ.nc a.cc a.bb σ.nb a.bc a.ab σ.na, CG a.cb σ.nc a.sp (updF a.C k ⟨(σ.size k : Nat), (a.C k).fa, (a.C k).fc, (σ.fr k).eraseIdx i⟩), BG a.bb σ.nb a.sq (updF a.B v ⟨(a.B v).cls, xa, σ.size k, σ.size k⟩), PtP a.ab σ.na a.u]) [1, 2, 3, 4, 5, 6, 0, 7, 8, 9, 10] rfl h2
    have h4 := s2_put ⟨r.q, r.us + σ.size k, r.tk ++ [(v : Int)]⟩ b (ta, tc) hid h3
    have h5 := sl_keep (L := S2 (updF σ.ar id (some ⟨r.q, r.us + σ.size k, r.tk ++ [(v : Int)]⟩)) (updF a.u id (some b)) (updF a.T id (ta, tc)) σ.na :: [I2 (a.C k).fa (a.C k).fc ((σ.fr k).eraseIdx i), H0 a.C σ.nc k, Y2 xa (σ.size k) (List.replicate (σ.size k) 0), H1 σ.bs a.B σ.nb v, HG p a.cb σ.nc a.cc a.bb σ.nb a.bc a.ab σ.na, CG a.cb σ.nc a.sp (updF a.C k ⟨(σ.size k : Nat), (a.C k).fa, (a.C k).fc, (σ.fr k).eraseIdx i⟩), BG a.bb σ.nb a.sq (updF a.B v ⟨(a.B v).cls, xa, σ.size k, σ.size k⟩), PtP a.ab σ.na a.u]) [1, 2, 3, 4, 0, 5, 6, 7, 8] rfl h4
    have h6 := s0_put ⟨(σ.size k : Nat), (a.C k).fa, (a.C k).fc, (σ.fr k).eraseIdx i⟩ hk h5
    have h7 := sl_keep (L := S0 (updF a.C k ⟨(σ.size k : Nat), (a.C k).fa, (a.C k).fc, (σ.fr k).eraseIdx i⟩) σ.nc :: [Y2 xa (σ.size k) (List.replicate (σ.size k) 0), H1 σ.bs a.B σ.nb v, S2 (updF σ.ar id (some ⟨r.q, r.us + σ.size k, r.tk ++ [(v : Int)]⟩)) (updF a.u id (some b)) (updF a.T id (ta, tc)) σ.na, HG p a.cb σ.nc a.cc a.bb σ.nb a.bc a.ab σ.na, CG a.cb σ.nc a.sp (updF a.C k ⟨(σ.size k : Nat), (a.C k).fa, (a.C k).fc, (σ.fr k).eraseIdx i⟩), BG a.bb σ.nb a.sq (updF a.B v ⟨(a.B v).cls, xa, σ.size k, σ.size k⟩), PtP a.ab σ.na a.u]) [1, 2, 0, 3, 4, 5, 6, 7] rfl h6
    have h8 := s1_put (List.replicate (σ.size k) 0) ⟨(a.B v).cls, xa, σ.size k, σ.size k⟩ hvb h7
    have h9 := sl_keep (L := S1 (updF σ.bs v (some (List.replicate (σ.size k) 0))) (updF a.B v ⟨(a.B v).cls, xa, σ.size k, σ.size k⟩) σ.nb :: [S0 (updF a.C k ⟨(σ.size k : Nat), (a.C k).fa, (a.C k).fc, (σ.fr k).eraseIdx i⟩) σ.nc, S2 (updF σ.ar id (some ⟨r.q, r.us + σ.size k, r.tk ++ [(v : Int)]⟩)) (updF a.u id (some b)) (updF a.T id (ta, tc)) σ.na, HG p a.cb σ.nc a.cc a.bb σ.nb a.bc a.ab σ.na, CG a.cb σ.nc a.sp (updF a.C k ⟨(σ.size k : Nat), (a.C k).fa, (a.C k).fc, (σ.fr k).eraseIdx i⟩), BG a.bb σ.nb a.sq (updF a.B v ⟨(a.B v).cls, xa, σ.size k, σ.size k⟩), PtP a.ab σ.na a.u]) [3, 4, 5, 6, 1, 0, 2] rfl h8
    refine ⟨(), trivial, rfl, pools_shut (σ := takeσ σ id r k i v) { cb := a.cb, cc := a.cc, bb := a.bb, bc := a.bc, ab := a.ab, sp := a.sp, sq := a.sq, C := updF a.C k ⟨(σ.size k : Nat), (a.C k).fa, (a.C k).fc, (σ.fr k).eraseIdx i⟩, B := updF a.B v ⟨(a.B v).cls, xa, σ.size k, σ.size k⟩, u := a.u, T := updF a.T id (ta, tc), hC := fun j hj => ?_, hB := fun j hj => ?_, hb := fun j l hj hl => ?_, hu := fun j hj => ?_ } ?_⟩
    · unfold takeσ updF
      dsimp only
      split
      · rename_i e; subst e; exact ⟨rfl, rfl⟩
      · exact a.hC j hj
    · unfold takeσ updF
      dsimp only
      split
      · rename_i e; subst e; exact a.hB j hj
      · exact a.hB j hj
    · unfold takeσ updF at hl
      unfold updF
      dsimp only at hl ⊢
      split
      · rename_i e
        rw [if_pos e] at hl
        cases hl
        exact ⟨List.length_replicate.symm, List.length_replicate.symm, hx⟩
      · rename_i e
        rw [if_neg e] at hl
        exact a.hb j l hj hl
    · unfold takeσ updF
      dsimp only
      split
      · rename_i e; rw [e, hb]; rfl
      · exact a.hu j hj
    · have e0 : updF a.u id (some b) = a.u := by rw [← hb, updF_self]
      rw [e0] at h9
      exact h9
end Go.Proofs.Ytmplimmcjdkhlaa

/- The arena package, any Pool: what is refused. -/
namespace Go.Proofs.Ytmplimmcjdkhlaa
open Go.Sl Go.Xg
set_option linter.unusedVariables false
set_option linter.unusedSimpArgs false
set_option linter.unnecessarySimpa false
set_option maxHeartbeats 4000000
set_option maxRecDepth 100000


def tkN : Nat → List HP → List HP
  | 0, _ => []
  | _ + 1, [] => []
  | n + 1, a :: l => a :: tkN n l
def drN : Nat → List HP → List HP
  | 0, l => l
  | _ + 1, [] => []
  | n + 1, _ :: l => drN n l
theorem tk_dr : ∀ (n : Nat) (l : List HP), tkN n l ++ drN n l = l
  | 0, _ => rfl
  | _ + 1, [] => rfl
  | n + 1, a :: l => congrArg (a :: ·) (tk_dr n l)
/-- The first n parts, in this order (or some of them). -/
theorem sl_ord {g w : World} {L : List HP} (is : List Nat) (n : Nat) (h : okPick is (tkN n L).length = true) (hS : SL g L w) : SL g (pick is (tkN n L) ++ drN n L) w := by
  rw [← tk_dr n L] at hS
  exact sl_keep is h hS

def isNo (σ : Po) (id : Int) : Prop := id < 0 ∨ (σ.na : Int) ≤ id ∨ ∃ n : Nat, id = n ∧ n < σ.na ∧ σ.ar n = none
section
variable (p : Nat) (σ : Po) (hna : σ.na ≤ 64) (a : PAd σ) (id : Int) (hno : isNo σ id)
include hna hno
omit a
end
section
variable (p : Nat) (σ : Po) (hna : σ.na ≤ 64) (id : Nat) (hid : id < σ.na) (r : Ar) (hr : σ.ar id = some r) (b : Int) (hb : fidx (fun x => b == x) r.tk < 0)
include hna hid hr hb
end
end Go.Proofs.Ytmplimmcjdkhlaa

/- The arena package, any Pool: Store, Load, Used, Free, Open over it. -/
namespace Go.Proofs.Ytmplimmcjdkhlaa
open Go.Sl Go.Xg
set_option linter.unusedVariables false
set_option linter.unusedSimpArgs false
set_option linter.unnecessarySimpa false
set_option maxHeartbeats 4000000
set_option maxRecDepth 100000


theorem sub_some (a : Option Addr) (c l s : Nat) (h : a.isNone = false) : (Xg.subA a c l s).isNone = false := by
  unfold subA
  split
  · exact h
  · cases a with
    | none => cases h
    | some a => rfl
theorem clone_g (A : HP) (a : Option Addr) (k : Nat) (ys : List Int) (hy : ys.length = k) (hk : k ≤ 100000) (ha : a.isNone = false) (hR : Reads A 1 (.slice a k k) k (ys.map (Value.int .u8))) : Does Try.prog 44 [.slice a k k] [A]
    (RetE (fun z : Option Addr × Nat => True) (fun z => .slice z.1 k z.2) (fun z => [A, Y2 z.1 z.2 ys])) := by
  (focus
    refine Xg.spec_of Go.Proofs.Try.func44 rfl Go.Proofs.Try.ntmps44 fun g F => ?_)
  (focus
    refine Xg.at_seq ?_
    refine Xg.at_region ?_
    refine Xg.ops_op (by kernel_rfl) (Xg.opx_pure ((Value.slice none (0 : Nat) (0 : Nat))) rfl (fun _ => by kernel_rfl) ?_)
    refine Xg.ops_nil ?_
    refine Xg.at_seq ?_
    refine Xg.at_seq ?_
    refine Xg.at_region ?_
    refine Xg.ops_op (by kernel_rfl) (Xg.opx_pure ((Value.slice a k k)) rfl (fun _ => by kernel_rfl) ?_)
    refine Xg.ops_op (by kernel_rfl) (Xg.opx_run (.bool (Option.isNone a)) rfl (Xg.run_slnil (elem := 5) (c := k) (len := k) (by kernel_rfl) (by kernel_rfl) (by kernel_rfl)) ?_)
    refine Xg.ops_nil ?_
    refine Xg.at_cond (t := a.isNone) (by kernel_rfl) (fun xh1 => ?_) (fun xh1 => ?_)
    refine Xg.at_seq ?_
    refine Xg.at_region ?_
    refine Xg.ops_op (by kernel_rfl) (Xg.opx_pure ((Value.slice none (0 : Nat) (0 : Nat))) rfl (fun _ => by kernel_rfl) ?_)
    refine Xg.ops_nil ?_
    rotate_left
    refine Xg.at_skip ?_
    refine Xg.at_seq ?_
    refine Xg.at_region ?_
    refine Xg.ops_op (by kernel_rfl) (Xg.opx_bs (elem := 5) 1 [] [] (by kernel_rfl) (by kernel_rfl) (by decide) rfl (by kernel_rfl) (by kernel_rfl) (by kernel_rfl) (by kernel_rfl) fun xb1 => ?_)
    refine Xg.ops_op (by kernel_rfl) (Xg.opx_pure ((Value.slice a k k)) rfl (fun _ => by kernel_rfl) ?_)
    refine Xg.ops_row_ints 0 .u8 [] rfl rfl (Nat.le_of_ble_eq_true (by kernel_rfl)) ?_
    refine Xg.ops_op (by kernel_rfl) (Xg.opx_append_ints (kd := .u8) (yv := (Value.slice a k k)) (m := k) (xs := []) (elem := 5) 0 1 ys rfl (by kernel_rfl) (by kernel_rfl) (by kernel_rfl) (by kernel_rfl) (by first | rfl | assumption | omega | (simp; done) | (simp; omega)) (fun _ hS => Xg.reads_rd hR 1 rfl hS) (by first | omega | (simp only [List.length_nil, List.length_cons]; omega) | (simp; omega)) (by first | omega | (simp only [List.length_nil, List.length_cons]; omega) | (simp; omega)) fun xa1 xc1 => ?_)
    have xl1 : ([] ++ ys : List Int).length = ([] : List Int).length + k := by first | (simp; done) | (simp; omega)
    refine Xg.ops_op (by kernel_rfl) (Xg.opx_pure ((Value.slice xa1 ([] ++ ys).length xc1)) rfl (fun _ => by kernel_rfl) ?_)
    refine Xg.ops_nil ?_)
  · rw [List.nil_append, hy]
    (focus
      refine Xg.at_ret_ps (v := (Value.slice xa1 k xc1)) [1, 0] [A, ints (5 : TypeId) IntKind.u8 xa1 xc1 ys] Go.Proofs.Try.func44 (fun _ => by kernel_rfl) (by kernel_rfl) (by kernel_rfl) ?_
      refine ⟨((xa1, xc1)), trivial, by kernel_rfl, by kernel_rfl⟩)
  · rw [ha] at xh1; cases xh1
theorem clonei_g (a : Option Addr) (c : Nat) (l : List Int) (hl : l.length ≤ 100000) : Does Try.prog 47 [.slice a l.length c] [I2 a c l]
    (RetE (fun z : Option Addr × Nat => True) (fun z => .slice z.1 l.length z.2) (fun z => [I2 a c l, I2 z.1 z.2 l])) := by
  by_cases ha : a.isNone = true
  · obtain rfl : a = none := by cases a with | none => rfl | some a => cases ha
    (focus
      refine Xg.spec_of Go.Proofs.Try.func47 rfl Go.Proofs.Try.ntmps47 fun g F => ?_)
    refine Xg.at_own 0 rfl fun h1 h2 _ h4 => ?_
    obtain ⟨h5, rfl⟩ := h4 rfl
    obtain rfl : l = [] := List.length_eq_zero_iff.1 h5
    clear h1 h2 h4 h5
    refine Xg.at_nil_ints 3 .i64 ?_
    (focus
      refine Xg.at_seq ?_
      refine Xg.at_region ?_
      refine Xg.ops_op (by kernel_rfl) (Xg.opx_pure ((Value.slice none (0 : Nat) (0 : Nat))) rfl (fun _ => by kernel_rfl) ?_)
      refine Xg.ops_nil ?_
      refine Xg.at_seq ?_
      refine Xg.at_seq ?_
      refine Xg.at_region ?_
      refine Xg.ops_op (by kernel_rfl) (Xg.opx_pure ((Value.slice none (0 : Nat) (0 : Nat))) rfl (fun _ => by kernel_rfl) ?_)
      refine Xg.ops_op (by kernel_rfl) (Xg.opx_pure ((Value.bool true)) rfl (fun _ => by kernel_rfl) ?_)
      refine Xg.ops_nil ?_
      refine Xg.at_true (t := true) (by kernel_rfl) rfl ?_
      refine Xg.at_seq ?_
      refine Xg.at_region ?_
      refine Xg.ops_op (by kernel_rfl) (Xg.opx_pure ((Value.slice none (0 : Nat) (0 : Nat))) rfl (fun _ => by kernel_rfl) ?_)
      refine Xg.ops_nil ?_
      refine Xg.at_ret_ps (v := (Value.slice none (0 : Nat) (0 : Nat))) [0, 1] [ints (3 : TypeId) IntKind.i64 none (0 : Nat) [], I2 none (0 : Nat) []] Go.Proofs.Try.func47 (fun _ => by kernel_rfl) (by kernel_rfl) (by kernel_rfl) ?_
      refine ⟨((none, (0 : Nat))), trivial, by kernel_rfl, by kernel_rfl⟩)
  · have ha : a.isNone = false := by cases h : a.isNone with | false => rfl | true => exact absurd h ha
    (focus
      refine Xg.spec_of Go.Proofs.Try.func47 rfl Go.Proofs.Try.ntmps47 fun g F => ?_)
    (focus
      refine Xg.at_seq ?_
      refine Xg.at_region ?_
      refine Xg.ops_op (by kernel_rfl) (Xg.opx_pure ((Value.slice none (0 : Nat) (0 : Nat))) rfl (fun _ => by kernel_rfl) ?_)
      refine Xg.ops_nil ?_
      refine Xg.at_seq ?_
      refine Xg.at_seq ?_
      refine Xg.at_region ?_
      refine Xg.ops_op (by kernel_rfl) (Xg.opx_pure ((Value.slice a l.length c)) rfl (fun _ => by kernel_rfl) ?_)
      refine Xg.ops_op (by kernel_rfl) (Xg.opx_run (.bool (Option.isNone a)) rfl (Xg.run_slnil (elem := 3) (c := c) (len := l.length) (by kernel_rfl) (by kernel_rfl) (by kernel_rfl)) ?_)
      refine Xg.ops_nil ?_
      refine Xg.at_cond (t := a.isNone) (by kernel_rfl) (fun xh1 => ?_) (fun xh1 => ?_)
      refine Xg.at_seq ?_
      refine Xg.at_region ?_
      refine Xg.ops_op (by kernel_rfl) (Xg.opx_pure ((Value.slice none (0 : Nat) (0 : Nat))) rfl (fun _ => by kernel_rfl) ?_)
      refine Xg.ops_nil ?_
      rotate_left
      refine Xg.at_skip ?_
      refine Xg.at_seq ?_
      refine Xg.at_region ?_
      refine Xg.ops_op (by kernel_rfl) (Xg.opx_bs (elem := 3) 1 [] [] (by kernel_rfl) (by kernel_rfl) (by decide) rfl (by kernel_rfl) (by kernel_rfl) (by kernel_rfl) (by kernel_rfl) fun xb1 => ?_)
      refine Xg.ops_op (by kernel_rfl) (Xg.opx_pure ((Value.slice a l.length c)) rfl (fun _ => by kernel_rfl) ?_)
      refine Xg.ops_row_ints 0 .i64 [] rfl rfl (Nat.le_of_ble_eq_true (by kernel_rfl)) ?_
      refine Xg.ops_op (by kernel_rfl) (Xg.opx_append_ints (kd := .i64) (yv := (Value.slice a l.length c)) (m := l.length) (xs := []) (elem := 3) 0 8 l rfl (by kernel_rfl) (by kernel_rfl) (by kernel_rfl) (by kernel_rfl) (by first | rfl | assumption | omega | (simp; done) | (simp; omega)) (fun _ hS => Xg.own_rd hS 1 rfl) (by first | omega | (simp only [List.length_nil, List.length_cons]; omega) | (simp; omega)) (by first | omega | (simp only [List.length_nil, List.length_cons]; omega) | (simp; omega)) fun xa1 xc1 => ?_)
      have xl1 : ([] ++ l : List Int).length = ([] : List Int).length + l.length := by first | (simp; done) | (simp; omega)
      refine Xg.ops_op (by kernel_rfl) (Xg.opx_pure ((Value.slice xa1 ([] ++ l).length xc1)) rfl (fun _ => by kernel_rfl) ?_)
      refine Xg.ops_nil ?_
      refine Xg.at_ret_ps (v := (Value.slice xa1 ([] ++ l).length xc1)) [1, 0] [I2 a c l, ints (3 : TypeId) IntKind.i64 xa1 xc1 ([] ++ l)] Go.Proofs.Try.func47 (fun _ => by kernel_rfl) (by kernel_rfl) (by kernel_rfl) ?_
      refine ⟨((xa1, xc1)), trivial, by kernel_rfl, by kernel_rfl⟩)
    · rw [ha] at xh1; cases xh1

section
variable (p cb nc cc bb nb bc ab na : Nat) (u : Nat → Option Nat) (id r : Nat) (hid : id < na) (hna : na ≤ 64) (hu : u id = some r) (sq : List Value) (B : Nat → Buf) (q us : Int) (ta : Option Addr) (tc : Nat) (tk : List Int)
include hid hna hu
theorem loadG (b at0 n : Nat) (hb : 0 ≤ fidx (fun x => ((b : Nat) : Int) == x) tk) (hbn : b < nb) (l : List Int) (hBn : (B b).n = l.length) (hBc : (B b).c = l.length) (hBa : (B b).a.isNone = false) (hn : at0 + n ≤ l.length) (hl : l.length ≤ 65536) (hnb : nb ≤ 100000) : Does Try.prog 19 [.pointer (some ⟨p, 0, none⟩), .int .i64 (id : Nat), .int .i64 (b : Nat), .int .i64 (at0 : Nat), .int .i64 (n : Nat)] [HG p cb nc cc bb nb bc ab na, PtP ab na u, R2 r q us ta tk.length tc, I2 ta tc tk, BG bb nb sq B, Y2 (B b).a (B b).c l]
    (RetE (fun z : Option Addr × Nat => True) (fun z => .tuple #[.slice z.1 n z.2, .int .i64 0]) (fun z => [HG p cb nc cc bb nb bc ab na, PtP ab na u, R2 r q us ta tk.length tc, I2 ta tc tk, BG bb nb sq B, Y2 (B b).a (B b).c l, Y2 z.1 z.2 ((l.drop at0).take n)])) := by
  have hs := spanG_ok p cb nc cc bb nb bc ab na u id r hid hna hu sq B q us ta tc tk b at0 n hb hbn (by omega) (by omega) (by omega) hnb
  obtain ⟨X, hX⟩ : ∃ X, Y2 (B b).a (B b).c l = X := ⟨_, rfl⟩
  have hr : Reads X 1 (.slice (Xg.subA (B b).a (at0 + n) at0 1) n n) n (((l.drop at0).take n).map (Value.int .u8)) := by
    have h := reads_ints_part (E := 5) (kd := .u8) (xs := l) (c := (B b).c) (a := (B b).a) at0 (at0 + n) (Nat.le_add_right _ _) hn
    rw [show at0 + n - at0 = n from by omega] at h
    rw [← hX]
    by_cases h0 : n = 0
    · subst h0
      exact ⟨fun g F w hS => ⟨_, _, rfl, by simp, fun j v hv => by simp at hv⟩⟩
    · have e : Xg.subA (B b).a (at0 + n) at0 1 = Xg.subA (B b).a (B b).c at0 1 := by
        unfold subA; rw [if_neg (by omega), if_neg (by omega)]
      rw [e]
      refine ⟨fun g F w hS => ?_⟩
      obtain ⟨a', c', e', hl', hc'⟩ := h.run g F w hS
      cases e'
      exact ⟨_, _, rfl, hl', hc'⟩
  have hc := clone_g X (Xg.subA (B b).a (at0 + n) at0 1) n ((l.drop at0).take n) (by rw [List.length_take, List.length_drop]; omega) (by omega) (sub_some _ _ _ _ hBa) hr
  rw [hX]
  (focus
    refine Xg.spec_of Go.Proofs.Try.func19 rfl Go.Proofs.Try.ntmps19 fun g F => ?_)
  (focus
    refine Xg.at_seq ?_
    refine Xg.at_region ?_
    refine Xg.ops_op (by kernel_rfl) (Xg.opx_pure ((Value.slice none (0 : Nat) (0 : Nat))) rfl (fun _ => by kernel_rfl) ?_)
    refine Xg.ops_op (by kernel_rfl) (Xg.opx_pure ((iv 0)) rfl (fun _ => by kernel_rfl) ?_)
    refine Xg.ops_nil ?_
    refine Xg.at_seq ?_
    refine Xg.at_region ?_
    refine Xg.ops_op (by kernel_rfl) (Xg.opx_pure ((pv p 0)) rfl (fun _ => by kernel_rfl) ?_)
    refine Xg.ops_op (by kernel_rfl) (Xg.opx_pure ((iv (↑id : Int))) rfl (fun _ => by kernel_rfl) ?_)
    refine Xg.ops_op (by kernel_rfl) (Xg.opx_pure ((iv (↑b : Int))) rfl (fun _ => by kernel_rfl) ?_)
    refine Xg.ops_op (by kernel_rfl) (Xg.opx_pure ((iv (↑at0 : Int))) rfl (fun _ => by kernel_rfl) ?_)
    refine Xg.ops_op (by kernel_rfl) (Xg.opx_pure ((iv (↑n : Int))) rfl (fun _ => by kernel_rfl) ?_)
    refine Xg.ops_op (by kernel_rfl) (Xg.opx_call1' [0, 1, 2, 3, 4] [HG p cb nc cc bb nb bc ab na, PtP ab na u, R2 r q us ta tk.length tc, I2 ta tc tk, BG bb nb sq B, X] (fun _ => by kernel_rfl) (@hs ) (by kernel_rfl) (by kernel_rfl) (by kernel_rfl) ?_)
    refine Xg.ops_op (by kernel_rfl) (Xg.opx_pure ((Value.tuple #[Value.slice (subA (B b).a (at0 + n) at0 (1 : Nat)) n n, iv 0])) rfl (fun _ => by kernel_rfl) ?_)
    refine Xg.ops_op (by kernel_rfl) (Xg.opx_pure ((Value.slice (subA (B b).a (at0 + n) at0 (1 : Nat)) n n)) rfl (fun _ => by kernel_rfl) ?_)
    refine Xg.ops_op (by kernel_rfl) (Xg.opx_pure ((iv 0)) rfl (fun _ => by kernel_rfl) ?_)
    refine Xg.ops_op (by kernel_rfl) (Xg.opx_pure ((Value.slice (subA (B b).a (at0 + n) at0 (1 : Nat)) n n)) rfl (fun _ => by kernel_rfl) ?_)
    refine Xg.ops_op (by kernel_rfl) (Xg.opx_pure ((iv 0)) rfl (fun _ => by kernel_rfl) ?_)
    refine Xg.ops_nil ?_
    refine Xg.at_seq ?_
    refine Xg.at_region ?_
    refine Xg.ops_op (by kernel_rfl) (Xg.opx_pure ((Value.slice (subA (B b).a (at0 + n) at0 (1 : Nat)) n n)) rfl (fun _ => by kernel_rfl) ?_)
    refine Xg.ops_op (by kernel_rfl) (Xg.opx_callE' [5] (fun xx1 => [X, Y2 xx1.fst xx1.snd (List.take n (List.drop at0 l)), HG p cb nc cc bb nb bc ab na, PtP ab na u, R2 r q us ta tk.length tc, I2 ta tc tk, BG bb nb sq B]) (fun _ => by kernel_rfl) (@hc ) (by kernel_rfl) (by kernel_rfl) (by kernel_rfl) fun xx1 xh1 => ?_)
    try dsimp only at xh1
    refine Xg.ops_op (by kernel_rfl) (Xg.opx_pure ((iv 0)) rfl (fun _ => by kernel_rfl) ?_)
    refine Xg.ops_op (by kernel_rfl) (Xg.opx_pure ((Value.slice xx1.fst n xx1.snd)) rfl (fun _ => by kernel_rfl) ?_)
    refine Xg.ops_op (by kernel_rfl) (Xg.opx_pure ((iv 0)) rfl (fun _ => by kernel_rfl) ?_)
    refine Xg.ops_nil ?_
    refine Xg.at_ret_ps (v := (Value.tuple #[Value.slice xx1.fst n xx1.snd, iv 0])) [2, 3, 4, 5, 6, 0, 1] [HG p cb nc cc bb nb bc ab na, PtP ab na u, R2 r q us ta tk.length tc, I2 ta tc tk, BG bb nb sq B, X, Y2 xx1.fst xx1.snd (List.take n (List.drop at0 l))] Go.Proofs.Try.func19 (fun _ => by kernel_rfl) (by kernel_rfl) (by kernel_rfl) ?_
    refine ⟨((xx1.fst, xx1.snd)), trivial, by kernel_rfl, by kernel_rfl⟩)
theorem storeG (A : HP) (b at0 n : Nat) (sa : Option Addr) (sc : Nat) (ys : List Int) (hys : ys.length = n) (hR : Reads A 1 (.slice sa n sc) n (ys.map (Value.int .u8))) (hb : 0 ≤ fidx (fun x => ((b : Nat) : Int) == x) tk) (hbn : b < nb) (l : List Int) (hBn : (B b).n = l.length) (hBc : (B b).c = l.length) (hBa : (B b).a.isNone = false) (hn : at0 + n ≤ l.length) (hl0 : 0 < l.length) (hl : l.length ≤ 65536) (hnb : nb ≤ 100000) : Does Try.prog 18 [.pointer (some ⟨p, 0, none⟩), .int .i64 (id : Nat), .int .i64 (b : Nat), .int .i64 (at0 : Nat), .slice sa n sc] [HG p cb nc cc bb nb bc ab na, PtP ab na u, R2 r q us ta tk.length tc, I2 ta tc tk, BG bb nb sq B, Y2 (B b).a (B b).c l, A]
    (Ret (.int .i64 0) [HG p cb nc cc bb nb bc ab na, PtP ab na u, R2 r q us ta tk.length tc, I2 ta tc tk, BG bb nb sq B, Y2 (B b).a (B b).c (l.take at0 ++ ys ++ l.drop (at0 + n)), A]) := by
  have hs := spanG_ok p cb nc cc bb nb bc ab na u id r hid hna hu sq B q us ta tc tk b at0 n hb hbn (by omega) (by omega) (by omega) hnb
  have hl2 : (l.take at0 ++ ys ++ l.drop (at0 + n)).length = l.length := by
    rw [List.length_append, List.length_append, List.length_take, List.length_drop]; omega
  (focus
    refine Xg.spec_of Go.Proofs.Try.func18 rfl Go.Proofs.Try.ntmps18 fun g F => ?_)
  (focus
    refine Xg.at_seq ?_
    refine Xg.at_region ?_
    refine Xg.ops_op (by kernel_rfl) (Xg.opx_pure ((iv 0)) rfl (fun _ => by kernel_rfl) ?_)
    refine Xg.ops_nil ?_
    refine Xg.at_seq ?_
    refine Xg.at_region ?_
    refine Xg.ops_op (by kernel_rfl) (Xg.opx_pure ((pv p 0)) rfl (fun _ => by kernel_rfl) ?_)
    refine Xg.ops_op (by kernel_rfl) (Xg.opx_pure ((iv (↑id : Int))) rfl (fun _ => by kernel_rfl) ?_)
    refine Xg.ops_op (by kernel_rfl) (Xg.opx_pure ((iv (↑b : Int))) rfl (fun _ => by kernel_rfl) ?_)
    refine Xg.ops_op (by kernel_rfl) (Xg.opx_pure ((iv (↑at0 : Int))) rfl (fun _ => by kernel_rfl) ?_)
    refine Xg.ops_op (by kernel_rfl) (Xg.opx_pure ((Value.slice sa n sc)) rfl (fun _ => by kernel_rfl) ?_)
    refine Xg.ops_op (by kernel_rfl) (Xg.opx_pure ((iv (↑n : Int))) rfl (fun _ => by kernel_rfl) ?_)
    refine Xg.ops_op (by kernel_rfl) (Xg.opx_call1' [0, 1, 2, 3, 4] [HG p cb nc cc bb nb bc ab na, PtP ab na u, R2 r q us ta tk.length tc, I2 ta tc tk, BG bb nb sq B, Y2 (B b).a (B b).c l, A] (fun _ => by kernel_rfl) (@hs ) (by kernel_rfl) (by kernel_rfl) (by kernel_rfl) ?_)
    refine Xg.ops_op (by kernel_rfl) (Xg.opx_pure ((Value.tuple #[Value.slice (subA (B b).a (at0 + n) at0 (1 : Nat)) n n, iv 0])) rfl (fun _ => by kernel_rfl) ?_)
    refine Xg.ops_op (by kernel_rfl) (Xg.opx_pure ((Value.slice (subA (B b).a (at0 + n) at0 (1 : Nat)) n n)) rfl (fun _ => by kernel_rfl) ?_)
    refine Xg.ops_op (by kernel_rfl) (Xg.opx_pure ((iv 0)) rfl (fun _ => by kernel_rfl) ?_)
    refine Xg.ops_op (by kernel_rfl) (Xg.opx_pure ((Value.slice (subA (B b).a (at0 + n) at0 (1 : Nat)) n n)) rfl (fun _ => by kernel_rfl) ?_)
    refine Xg.ops_op (by kernel_rfl) (Xg.opx_pure ((iv 0)) rfl (fun _ => by kernel_rfl) ?_)
    refine Xg.ops_nil ?_
    refine Xg.at_seq ?_
    refine Xg.at_region ?_
    refine Xg.ops_op (by kernel_rfl) (Xg.opx_pure ((Value.slice (subA (B b).a (at0 + n) at0 (1 : Nat)) n n)) rfl (fun _ => by kernel_rfl) ?_)
    refine Xg.ops_op (by kernel_rfl) (Xg.opx_pure ((Value.slice sa n sc)) rfl (fun _ => by kernel_rfl) ?_))
  by_cases hk0 : n = 0
  · subst hk0
    have hy0 : ys = [] := List.length_eq_zero_iff.1 hys
    rw [show l.take at0 ++ ys ++ l.drop (at0 + 0) = l from by rw [hy0, List.append_nil, Nat.add_zero, List.take_append_drop]]
    refine Xg.ops_op (by kernel_rfl) (Xg.opx_copy_in (elem := 5) (kd := .u8) (xs := l) (ys := ys) (a := (B b).a) (c := (B b).c) (ax := Xg.subA (B b).a (at0 + 0) at0 1) (cx := 0) (yv := .slice sa 0 sc) 5 1 0 0 l 0 rfl (by kernel_rfl) (by kernel_rfl) (by kernel_rfl) (fun b e => by unfold subA; rw [if_pos (Nat.add_zero _), e]) (by kernel_rfl) (fun w hS => by rw [hys]; exact reads_rd hR 6 rfl hS) (by omega) (by omega) (by rw [hy0]; simp) rfl (by rw [hys]; rfl) ?_)
    (focus
      refine Xg.ops_nil ?_
      refine Xg.at_seq ?_
      refine Xg.at_region ?_
      refine Xg.ops_op (by kernel_rfl) (Xg.opx_pure ((iv 0)) rfl (fun _ => by kernel_rfl) ?_)
      refine Xg.ops_op (by kernel_rfl) (Xg.opx_pure ((iv 0)) rfl (fun _ => by kernel_rfl) ?_)
      refine Xg.ops_nil ?_
      refine Xg.at_ret_ps (v := (iv 0)) [0, 1, 2, 3, 4, 5, 6] [HG p cb nc cc bb nb bc ab na, PtP ab na u, R2 r q us ta tk.length tc, I2 ta tc tk, BG bb nb sq B, ints (5 : TypeId) IntKind.u8 (B b).a (B b).c l, A] Go.Proofs.Try.func18 (fun _ => by kernel_rfl) (by kernel_rfl) (by kernel_rfl) ?_
      exact ⟨by kernel_rfl, by kernel_rfl⟩)
  · refine Xg.ops_op (by kernel_rfl) (Xg.opx_copy_in (elem := 5) (kd := .u8) (xs := l) (ys := ys) (a := (B b).a) (c := (B b).c) (ax := Xg.subA (B b).a (at0 + n) at0 1) (cx := n) (yv := .slice sa n sc) 5 1 at0 n (l.take at0 ++ ys ++ l.drop (at0 + n)) n rfl (by kernel_rfl) (by kernel_rfl) (by kernel_rfl) (fun b e => by rw [e]; exact sub_at (by omega)) (by kernel_rfl) (fun w hS => by rw [hys]; exact reads_rd hR 6 rfl hS) (by omega) (by omega) (by rw [hys, Nat.min_self, List.take_of_length_le (l := ys) (by omega)]) hl2 (by rw [hys, Nat.min_self]) ?_)
    (focus
      refine Xg.ops_nil ?_
      refine Xg.at_seq ?_
      refine Xg.at_region ?_
      refine Xg.ops_op (by kernel_rfl) (Xg.opx_pure ((iv 0)) rfl (fun _ => by kernel_rfl) ?_)
      refine Xg.ops_op (by kernel_rfl) (Xg.opx_pure ((iv 0)) rfl (fun _ => by kernel_rfl) ?_)
      refine Xg.ops_nil ?_
      refine Xg.at_ret_ps (v := (iv 0)) [0, 1, 2, 3, 4, 5, 6] [HG p cb nc cc bb nb bc ab na, PtP ab na u, R2 r q us ta tk.length tc, I2 ta tc tk, BG bb nb sq B, ints (5 : TypeId) IntKind.u8 (B b).a (B b).c (List.take at0 l ++ ys ++ List.drop (at0 + n) l), A] Go.Proofs.Try.func18 (fun _ => by kernel_rfl) (by kernel_rfl) (by kernel_rfl) ?_
      exact ⟨by kernel_rfl, by kernel_rfl⟩)
end

section
variable (p : Nat) (σ : Po) (hna : σ.na ≤ 64) (hnb : σ.nb ≤ 100000) (id : Nat) (hid : id < σ.na) (r : Ar) (hr : σ.ar id = some r)
include hna hid hr
include hnb
theorem loadS (b at0 n : Nat) (hb : 0 ≤ fidx (fun x => ((b : Nat) : Int) == x) r.tk) (hbn : b < σ.nb) (l : List Int) (hbs : σ.bs b = some l) (hn : at0 + n ≤ l.length) (hl : l.length ≤ 65536) : Does Try.prog 19 [.pointer (some ⟨p, 0, none⟩), .int .i64 (id : Nat), .int .i64 (b : Nat), .int .i64 (at0 : Nat), .int .i64 (n : Nat)] [PoolS p σ]
    (RetE (fun z : Option Addr × Nat => True) (fun z => .tuple #[.slice z.1 n z.2, .int .i64 0]) (fun z => [PoolS p σ, Y2 z.1 z.2 ((l.drop at0).take n)])) := by
  refine does_pool (X := []) fun a => ?_
  obtain ⟨c, hc, ho⟩ := open_ar (p := p) hid hr a
  obtain ⟨h1, h2, h3⟩ := a.hb b l hbn hbs
  refine ⟨_, [CG a.cb σ.nc a.sp a.C, S0 a.C σ.nc, H1 σ.bs a.B σ.nb b, H2x σ.ar a.u a.T σ.na id], _, _, _, _, loadG p a.cb σ.nc a.cc a.bb σ.nb a.bc a.ab σ.na a.u id c hid hna hc a.sq a.B r.q r.us (a.T id).1 (a.T id).2 r.tk b at0 n hb hbn l h1 h2 h3 hn hl hnb, fun g w F hS => ?_, fun x hx g w F hS => ⟨x, hx, rfl, ?_⟩⟩
  · have h4 := s1_take hbn hbs (sl_ord [7, 0, 1, 2, 3, 4, 5, 6, 8] 9 rfl (ho g w F hS))
    exact sl_ord [2, 3, 4, 5, 7, 0, 6, 8, 1, 9] 10 rfl h4
  · have h4 := s1_back hbn hbs (sl_ord [5, 9, 0, 1, 2, 3, 4, 6, 7, 8, 10] 11 rfl hS)
    have h5 : SL g (rowsP σ p a ++ (Y2 x.1 x.2 ((l.drop at0).take n) :: F)) w := shut_ar hid hr a hc (sl_ord [1, 2, 3, 4, 7, 5, 8, 0, 9, 6] 10 rfl h4)
    exact pools_shut a h5
/-- Store: the state behind it. -/
def storeσ (σ : Po) (b : Nat) (l : List Int) : Po := { σ with bs := updF σ.bs b (some l) }
theorem storeS (A : HP) (b at0 n : Nat) (sa : Option Addr) (sc : Nat) (ys : List Int) (hys : ys.length = n) (hR : Reads A 1 (.slice sa n sc) n (ys.map (Value.int .u8))) (hb : 0 ≤ fidx (fun x => ((b : Nat) : Int) == x) r.tk) (hbn : b < σ.nb) (l : List Int) (hbs : σ.bs b = some l) (hn : at0 + n ≤ l.length) (hl0 : 0 < l.length) (hl : l.length ≤ 65536) : Does Try.prog 18 [.pointer (some ⟨p, 0, none⟩), .int .i64 (id : Nat), .int .i64 (b : Nat), .int .i64 (at0 : Nat), .slice sa n sc] [PoolS p σ, A]
    (Ret (.int .i64 0) [PoolS p (storeσ σ b (l.take at0 ++ ys ++ l.drop (at0 + n))), A]) := by
  refine e_ret (does_pool (X := [A]) fun a => ?_)
  obtain ⟨c, hc, ho⟩ := open_ar (p := p) hid hr a
  obtain ⟨h1, h2, h3⟩ := a.hb b l hbn hbs
  refine ⟨_, [CG a.cb σ.nc a.sp a.C, S0 a.C σ.nc, H1 σ.bs a.B σ.nb b, H2x σ.ar a.u a.T σ.na id], _, _, _, _, ret_e (storeG p a.cb σ.nc a.cc a.bb σ.nb a.bc a.ab σ.na a.u id c hid hna hc a.sq a.B r.q r.us (a.T id).1 (a.T id).2 r.tk A b at0 n sa sc ys hys hR hb hbn l h1 h2 h3 hn hl0 hl hnb), fun g w F hS => ?_, fun x hx g w F hS => ⟨x, hx, rfl, ?_⟩⟩
  · have h4 := s1_take hbn hbs (sl_ord [7, 0, 1, 2, 3, 4, 5, 6, 8, 9] 10 rfl (ho g w (A :: F) hS))
    exact sl_ord [2, 3, 4, 5, 7, 0, 10, 6, 8, 1, 9] 11 rfl h4
  · obtain ⟨l2, hl2⟩ : ∃ l2, l.take at0 ++ ys ++ l.drop (at0 + n) = l2 := ⟨_, rfl⟩
    have hl3 : l2.length = l.length := by
      rw [← hl2, List.length_append, List.length_append, List.length_take, List.length_drop]; omega
    rw [hl2] at hS ⊢
    have h4 := s1_put l2 (a.B b) hbn (sl_ord [5, 9, 0, 1, 2, 3, 4, 6, 7, 8, 10] 11 rfl hS)
    rw [updF_self] at h4
    have hbb : ∀ (j : Nat) (m : List Int), j < (storeσ σ b l2).nb → (storeσ σ b l2).bs j = some m → (a.B j).n = m.length ∧ (a.B j).c = m.length ∧ (a.B j).a.isNone = false := fun j m hj hm => by
      unfold storeσ updF at hm
      dsimp only at hm
      split at hm
      · rename_i e; subst e; cases hm; rw [hl3]; exact a.hb j l hj hbs
      · exact a.hb j m hj hm
    let a2 : PAd (storeσ σ b l2) := PAd.mk a.cb a.cc a.bb a.bc a.ab a.sp a.sq a.C a.B a.u a.T a.hC a.hB hbb a.hu
    have h5 : SL g (rowsP (storeσ σ b l2) p a2 ++ (A :: F)) w := shut_ar (σ := storeσ σ b l2) hid hr a2 hc (sl_ord [1, 2, 3, 4, 7, 5, 8, 0, 9, 6] 10 rfl h4)
    exact pools_shut a2 h5
end

/-- Free. -/
theorem freeG2 (p cb nc cc bb nb bc ab na : Nat) (sp : List Value) (C : Nat → Cls) (k : Nat) (hk : k < nc) (hnc : nc ≤ 100) (hl : (C k).fr.length ≤ 100000) : Does Try.prog 27 [.pointer (some ⟨p, 0, none⟩), .int .i64 (k : Nat)] [HG p cb nc cc bb nb bc ab na, CG cb nc sp C, I2 (C k).fa (C k).fc (C k).fr]
    (RetE (fun z : Option Addr × Nat => True) (fun z => .slice z.1 (C k).fr.length z.2) (fun z => [HG p cb nc cc bb nb bc ab na, CG cb nc sp C, I2 (C k).fa (C k).fc (C k).fr, I2 z.1 z.2 (C k).fr])) := by
  have hc := clonei_g (C k).fa (C k).fc (C k).fr hl
  (focus
    refine Xg.spec_of Go.Proofs.Try.func27 rfl Go.Proofs.Try.ntmps27 fun g F => ?_)
  (focus
    refine Xg.at_seq ?_
    refine Xg.at_region ?_
    refine Xg.ops_op (by kernel_rfl) (Xg.opx_pure ((Value.slice none (0 : Nat) (0 : Nat))) rfl (fun _ => by kernel_rfl) ?_)
    refine Xg.ops_nil ?_
    refine Xg.at_seq ?_
    refine Xg.at_seq ?_
    refine Xg.at_region ?_
    refine Xg.ops_op (by kernel_rfl) (Xg.opx_pure ((iv (↑k : Int))) rfl (fun _ => by kernel_rfl) ?_)
    refine Xg.ops_op (by kernel_rfl) (Xg.opx_pure (.bool (decide ((((↑k : Int)) : Int) < ((0 : Int))))) rfl (fun _ => by kernel_rfl) ?_)
    refine Xg.ops_op (by kernel_rfl) (Xg.opx_pure ((Value.bool (decide ((↑k : Int) < (0 : Int))))) rfl (fun _ => by kernel_rfl) ?_)
    refine Xg.ops_op (by kernel_rfl) (Xg.opx_pure ((iv (↑k : Int))) rfl (fun _ => by kernel_rfl) ?_)
    refine Xg.ops_op (by kernel_rfl) (Xg.opx_pure ((pv p 0)) rfl (fun _ => by kernel_rfl) ?_)
    refine Xg.ops_op (by kernel_rfl) (Xg.opx_pure ((pv p 0)) rfl (fun _ => by kernel_rfl) ?_)
    refine Xg.ops_op (by kernel_rfl) (Xg.opx_pure ((pv p 0)) rfl (fun _ => by kernel_rfl) ?_)
    refine Xg.ops_op (by kernel_rfl) (Xg.opx_load (b := p) (off := ((0 : Nat))) 0 (Value.slice (some (Addr.mk cb (0 : Nat) none)) nc cc) rfl (by kernel_rfl) (by kernel_rfl) (by kernel_rfl) ?_)
    refine Xg.ops_op (by kernel_rfl) (Xg.opx_pure ((iv (↑nc : Int))) rfl (fun _ => by kernel_rfl) ?_)
    refine Xg.ops_op (by kernel_rfl) (Xg.opx_pure (.bool (decide ((((↑k : Int)) : Int) ≥ ((↑nc : Int))))) rfl (fun _ => by kernel_rfl) ?_)
    refine Xg.ops_flag (j := 7) (c := (decide ((↑k : Int) < (0 : Int)))) (by kernel_rfl) (fun xh1 => absurd (of_decide_eq_true xh1) (by omega)) (fun _ => ?_)
    refine Xg.ops_flag (j := 14) (c := (decide ((↑k : Int) ≥ (↑nc : Int)))) (by kernel_rfl) (fun xh1 => absurd (of_decide_eq_true xh1) (by omega)) (fun _ => ?_)
    refine Xg.ops_op (by kernel_rfl) (Xg.opx_pure ((Value.bool false)) rfl (fun _ => by kernel_rfl) ?_)
    refine Xg.ops_nil ?_
    refine Xg.at_false (t := false) (by kernel_rfl) rfl ?_
    refine Xg.at_skip ?_
    refine Xg.at_seq ?_
    refine Xg.at_region ?_
    refine Xg.ops_op (by kernel_rfl) (Xg.opx_pure ((pv p 0)) rfl (fun _ => by kernel_rfl) ?_)
    refine Xg.ops_op (by kernel_rfl) (Xg.opx_pure ((pv p 0)) rfl (fun _ => by kernel_rfl) ?_)
    refine Xg.ops_op (by kernel_rfl) (Xg.opx_pure ((pv p 0)) rfl (fun _ => by kernel_rfl) ?_)
    refine Xg.ops_op (by kernel_rfl) (Xg.opx_load (b := p) (off := ((0 : Nat))) 0 (Value.slice (some (Addr.mk cb (0 : Nat) none)) nc cc) rfl (by kernel_rfl) (by kernel_rfl) (by kernel_rfl) ?_)
    refine Xg.ops_op (by kernel_rfl) (Xg.opx_pure ((iv (↑k : Int))) rfl (fun _ => by kernel_rfl) ?_)
    refine Xg.ops_op (by kernel_rfl) (Xg.opx_run (.pointer (some (Addr.mk cb (k * (3 : Nat)) none))) rfl (Xg.run_ix_slice' (elem := 98) (b := cb) (off := ((0 : Nat))) (len := nc) (cap := cc) (kd := .i64) (e := ((↑k : Int))) 3 k (k * (3 : Nat)) (by kernel_rfl) (by kernel_rfl) (by kernel_rfl) (by kernel_rfl) rfl (by omega) (by omega)) ?_)
    refine Xg.ops_op (by kernel_rfl) (Xg.opx_pure ((Value.pointer (some (Addr.mk cb (k * (3 : Nat) + (1 : Nat)) none)))) rfl (fun _ => by kernel_rfl) ?_)
    refine Xg.ops_op (by kernel_rfl) (Xg.opx_pure ((Value.pointer (some (Addr.mk cb (k * (3 : Nat) + (1 : Nat)) none)))) rfl (fun _ => by kernel_rfl) ?_)
    refine Xg.ops_op (by kernel_rfl) (Xg.opx_load (b := cb) (off := (k * (3 : Nat) + (1 : Nat))) 1 (Value.slice (C k).fa (C k).fr.length (C k).fc) rfl (by kernel_rfl) (@Go.Proofs.Ytmplimmcjdkhlaa.g_c1 (nc) (sp) (C) (k) (by omega)) (by kernel_rfl) ?_)
    refine Xg.ops_op (by kernel_rfl) (Xg.opx_callE' [2] (fun xx1 => [I2 (C k).fa (C k).fc (C k).fr, I2 xx1.fst xx1.snd (C k).fr, HG p cb nc cc bb nb bc ab na, CG cb nc sp C]) (fun _ => by kernel_rfl) (@hc ) (by kernel_rfl) (by kernel_rfl) (by kernel_rfl) fun xx1 xh1 => ?_)
    try dsimp only at xh1
    refine Xg.ops_op (by kernel_rfl) (Xg.opx_pure ((Value.slice xx1.fst (C k).fr.length xx1.snd)) rfl (fun _ => by kernel_rfl) ?_)
    refine Xg.ops_nil ?_
    refine Xg.at_ret_ps (v := (Value.slice xx1.fst (C k).fr.length xx1.snd)) [2, 3, 0, 1] [HG p cb nc cc bb nb bc ab na, CG cb nc sp C, I2 (C k).fa (C k).fc (C k).fr, I2 xx1.fst xx1.snd (C k).fr] Go.Proofs.Try.func27 (fun _ => by kernel_rfl) (by kernel_rfl) (by kernel_rfl) ?_
    refine ⟨((xx1.fst, xx1.snd)), trivial, by kernel_rfl, by kernel_rfl⟩)
theorem freeS (p : Nat) (σ : Po) (k : Nat) (hk : k < σ.nc) (hnc : σ.nc ≤ 100) (hl : (σ.fr k).length ≤ 100000) : Does Try.prog 27 [.pointer (some ⟨p, 0, none⟩), .int .i64 (k : Nat)] [PoolS p σ]
    (RetE (fun z : Option Addr × Nat => True) (fun z => .slice z.1 (σ.fr k).length z.2) (fun z => [PoolS p σ, I2 z.1 z.2 (σ.fr k)])) := by
  refine does_pool (X := []) fun a => ?_
  obtain ⟨h1, h2⟩ := a.hC k hk
  refine ⟨_, [BG a.bb σ.nb a.sq a.B, PtP a.ab σ.na a.u, H0 a.C σ.nc k, S1 σ.bs a.B σ.nb, S2 σ.ar a.u a.T σ.na], _, _, _, _, freeG2 p a.cb σ.nc a.cc a.bb σ.nb a.bc a.ab σ.na a.sp a.C k hk hnc (by rw [h2]; exact hl), fun g w F hS => ?_, fun x hx g w F hS => ⟨x, hx, by rw [h2], ?_⟩⟩
  · have h4 := s0_take hk (sl_ord [4, 0, 1, 2, 3, 5, 6] 7 rfl hS)
    exact sl_ord [2, 3, 0, 4, 5, 1, 6, 7] 8 rfl h4
  · rw [← h2]
    have h4 := s0_back hk (sl_ord [2, 6, 0, 1, 3, 4, 5, 7, 8] 9 rfl hS)
    exact pools_shut (L := I2 x.1 x.2 (a.C k).fr :: F) a (sl_ord [1, 2, 4, 5, 0, 6, 7, 3] 8 rfl h4)

/-- Open: the state behind it. -/
def openσ (σ : Po) (i : Nat) (q : Int) : Po := { σ with ar := updF σ.ar i (some ⟨q, 0, []⟩) }
theorem openG2 (p ab n : Nat) (cv bv : Value) (u : Nat → Option Nat) (i : Nat) (hn : n ≤ 64) (hi : i < n) (hno : u i = none) (hb : ∀ j, j < i → ∃ b, u j = some b) (q : Int) (hq : 0 ≤ q) : Does Try.prog 16 [.pointer (some ⟨p, 0, none⟩), .int .i64 q] [HdP p ab n cv bv, PtP ab n u]
    (RetE (fun r : Nat => True) (fun _ => .tuple #[.int .i64 (i : Nat), .int .i64 0]) (fun r => [HdP p ab n cv bv, PtP ab n (updF u i (some r)), R2 r q 0 none 0 0])) := by
  have hx := index_nil ab n u i hn hi hno hb
  have hs := fun r => s_some n u i r hi
  have h : Does Try.prog 16 [.pointer (some ⟨p, 0, none⟩), .int .i64 q] [HdP p ab n cv bv, PtP ab n u]
    (RetE (fun r : Nat => True) (fun _ => .tuple #[.int .i64 (i : Nat), .int .i64 0]) (fun r => [HdP p ab n cv bv, PtP ab n (upd u i (some r)), R2 r q 0 none 0 0])) := by
    (focus
      refine Xg.spec_of Go.Proofs.Try.func16 rfl Go.Proofs.Try.ntmps16 fun g F => ?_)
    (focus
      refine Xg.at_seq ?_
      refine Xg.at_region ?_
      refine Xg.ops_op (by kernel_rfl) (Xg.opx_pure ((iv 0)) rfl (fun _ => by kernel_rfl) ?_)
      refine Xg.ops_op (by kernel_rfl) (Xg.opx_pure ((iv 0)) rfl (fun _ => by kernel_rfl) ?_)
      refine Xg.ops_nil ?_
      refine Xg.at_seq ?_
      refine Xg.at_seq ?_
      refine Xg.at_region ?_
      refine Xg.ops_op (by kernel_rfl) (Xg.opx_pure ((iv q)) rfl (fun _ => by kernel_rfl) ?_)
      refine Xg.ops_op (by kernel_rfl) (Xg.opx_pure (.bool (decide ((q : Int) < ((0 : Int))))) rfl (fun _ => by kernel_rfl) ?_)
      refine Xg.ops_nil ?_
      refine Xg.at_false (t := decide ((q < (0 : Int)))) (by kernel_rfl) (decide_eq_false (by omega)) ?_
      refine Xg.at_skip ?_
      refine Xg.at_seq ?_
      refine Xg.at_region ?_
      refine Xg.ops_op (by kernel_rfl) (Xg.opx_pure ((pv p 0)) rfl (fun _ => by kernel_rfl) ?_)
      refine Xg.ops_op (by kernel_rfl) (Xg.opx_pure ((pv p 0)) rfl (fun _ => by kernel_rfl) ?_)
      refine Xg.ops_op (by kernel_rfl) (Xg.opx_pure ((pv p 2)) rfl (fun _ => by kernel_rfl) ?_)
      refine Xg.ops_op (by kernel_rfl) (Xg.opx_load (b := p) (off := ((2 : Nat))) 0 (Value.slice (some (Addr.mk ab (0 : Nat) none)) n n) rfl (by kernel_rfl) (by kernel_rfl) (by kernel_rfl) ?_)
      refine Xg.ops_op (by kernel_rfl) (Xg.opx_call1' [1] [row ab (102 : TypeId) (pcs n u), HdP p ab n cv bv] (fun _ => by kernel_rfl) (@hx ) (by kernel_rfl) (by kernel_rfl) (by kernel_rfl) ?_)
      refine Xg.ops_op (by kernel_rfl) (Xg.opx_pure ((iv (↑i : Int))) rfl (fun _ => by kernel_rfl) ?_)
      refine Xg.ops_nil ?_
      refine Xg.at_seq ?_
      refine Xg.at_seq ?_
      refine Xg.at_region ?_
      refine Xg.ops_op (by kernel_rfl) (Xg.opx_pure ((iv (↑i : Int))) rfl (fun _ => by kernel_rfl) ?_)
      refine Xg.ops_op (by kernel_rfl) (Xg.opx_pure (.bool (decide ((((↑i : Int)) : Int) < ((0 : Int))))) rfl (fun _ => by kernel_rfl) ?_)
      refine Xg.ops_nil ?_
      refine Xg.at_false (t := false) (by kernel_rfl) rfl ?_
      refine Xg.at_skip ?_
      refine Xg.at_seq ?_
      refine Xg.at_region ?_
      refine Xg.ops_op (by kernel_rfl) (Xg.opx_pure ((pv p 0)) rfl (fun _ => by kernel_rfl) ?_)
      refine Xg.ops_op (by kernel_rfl) (Xg.opx_pure ((pv p 0)) rfl (fun _ => by kernel_rfl) ?_)
      refine Xg.ops_op (by kernel_rfl) (Xg.opx_pure ((pv p 2)) rfl (fun _ => by kernel_rfl) ?_)
      refine Xg.ops_op (by kernel_rfl) (Xg.opx_load (b := p) (off := ((2 : Nat))) 1 (Value.slice (some (Addr.mk ab (0 : Nat) none)) n n) rfl (by kernel_rfl) (by kernel_rfl) (by kernel_rfl) ?_)
      refine Xg.ops_op (by kernel_rfl) (Xg.opx_pure ((iv (↑i : Int))) rfl (fun _ => by kernel_rfl) ?_)
      refine Xg.ops_op (by kernel_rfl) (Xg.opx_pure ((iv q)) rfl (fun _ => by kernel_rfl) ?_)
      refine Xg.ops_op (by kernel_rfl) (Xg.opx_pure ((Value.agg #[iv q, iv 0, Value.slice none (0 : Nat) (0 : Nat)])) rfl (fun _ => by kernel_rfl) ?_)
      refine Xg.ops_op (by kernel_rfl) (Xg.opx_box (v := (Value.agg #[iv q, iv 0, Value.slice none (0 : Nat) (0 : Nat)])) [iv q, iv 0, Value.slice none (0 : Nat) (0 : Nat)] (by kernel_rfl) (by kernel_rfl) fun xb1 => ?_)
      refine Xg.ops_op (by kernel_rfl) (Xg.opx_run (.pointer (some (Addr.mk ab i none))) rfl (Xg.run_ix_slice' (elem := 102) (b := ab) (off := ((0 : Nat))) (len := n) (cap := n) (kd := .i64) (e := ((↑i : Int))) 1 i i (by kernel_rfl) (by kernel_rfl) (by kernel_rfl) (by kernel_rfl) rfl (by omega) (by omega)) ?_)
      refine Xg.ops_op (by kernel_rfl) (Xg.opx_store_c (off := i) (cs' := (pcs n (upd u i (some xb1)))) 1 (pv xb1 0) (by kernel_rfl) rfl (by kernel_rfl) (by kernel_rfl) (by kernel_rfl) (@hs (xb1)) ?_)
      refine Xg.ops_nil ?_
      refine Xg.at_seq ?_
      refine Xg.at_region ?_
      refine Xg.ops_op (by kernel_rfl) (Xg.opx_pure ((iv (↑i : Int))) rfl (fun _ => by kernel_rfl) ?_)
      refine Xg.ops_op (by kernel_rfl) (Xg.opx_pure ((iv (↑i : Int))) rfl (fun _ => by kernel_rfl) ?_)
      refine Xg.ops_op (by kernel_rfl) (Xg.opx_pure ((iv 0)) rfl (fun _ => by kernel_rfl) ?_)
      refine Xg.ops_nil ?_
      refine Xg.at_ret_ps (v := (Value.tuple #[iv (↑i : Int), iv 0])) [2, 1, 0] [HdP p ab n cv bv, row ab (102 : TypeId) (pcs n (upd u i (some xb1))), row xb1 (105 : Nat) [iv q, iv 0, Value.slice none (0 : Nat) (0 : Nat)]] Go.Proofs.Try.func16 (fun _ => by kernel_rfl) (by kernel_rfl) (by kernel_rfl) ?_
      refine ⟨xb1, trivial, by kernel_rfl, by kernel_rfl⟩)
  exact h
theorem openS (p : Nat) (σ : Po) (hna : σ.na ≤ 64) (i : Nat) (hi : i < σ.na) (hno : σ.ar i = none) (hb : ∀ j, j < i → (σ.ar j).isSome = true) (q : Int) (hq : 0 ≤ q) : Does Try.prog 16 [.pointer (some ⟨p, 0, none⟩), .int .i64 q] [PoolS p σ]
    (Ret (.tuple #[.int .i64 (i : Nat), .int .i64 0]) [PoolS p (openσ σ i q)]) := by
  refine e_ret (does_pool (X := []) fun a => ?_)
  have hu : a.u i = none := by
    have := a.hu i hi
    rw [hno] at this
    cases e : a.u i with
    | none => rfl
    | some b => rw [e] at this; cases this
  refine ⟨_, [CG a.cb σ.nc a.sp a.C, BG a.bb σ.nb a.sq a.B, S0 a.C σ.nc, S1 σ.bs a.B σ.nb, H2x σ.ar a.u a.T σ.na i], _, _, _, _, openG2 p a.ab σ.na (.slice (some ⟨a.cb, 0, none⟩) σ.nc a.cc) (.slice (some ⟨a.bb, 0, none⟩) σ.nb a.bc) a.u i hna hi hu (fun j hj => Option.isSome_iff_exists.1 ((a.hu j (by omega)).trans (hb j hj))) q hq, fun g w F hS => ?_, fun x hx g w F hS => ⟨(), trivial, rfl, ?_⟩⟩
  · have h4 := s2_none hi hno (sl_ord [6, 0, 1, 2, 3, 4, 5] 7 rfl hS)
    exact sl_ord [1, 4, 2, 3, 5, 6, 0] 7 rfl h4
  · have h0 : SL g (ownS 3 1 (.slice none 0 0) 0 [] :: _) w := hS.own_nil 3 1
    have h4 := s2_put (T := a.T) ⟨q, 0, []⟩ x (none, 0) hi (sl_ord [3, 0, 8, 1, 2, 4, 5, 6, 7] 9 rfl h0)
    refine pools_shut (σ := openσ σ i q) { cb := a.cb, cc := a.cc, bb := a.bb, bc := a.bc, ab := a.ab, sp := a.sp, sq := a.sq, C := a.C, B := a.B, u := updF a.u i (some x), T := updF a.T i (none, 0), hC := a.hC, hB := a.hB, hb := a.hb, hu := fun j hj => ?_ } (sl_ord [1, 3, 4, 2, 5, 6, 0] 7 rfl h4)
    unfold openσ updF
    dsimp only
    split
    · rfl
    · exact a.hu j hj
end Go.Proofs.Ytmplimmcjdkhlaa

/- The arena package: New of two classes of two buffers. -/
namespace Go.Proofs.Ytmplimmcjdkhlaa
open Go.Sl Go.Xg
set_option linter.unusedVariables false
set_option linter.unusedSimpArgs false
set_option linter.unnecessarySimpa false
set_option maxHeartbeats 4000000
set_option maxRecDepth 100000

end Go.Proofs.Ytmplimmcjdkhlaa

/- The arena package: BinarySearchFunc. -/
namespace Go.Proofs.Ytmplimmcjdkhlaa
open Go.Sl Go.Xg
set_option linter.unusedVariables false
set_option linter.unusedSimpArgs false
set_option linter.unnecessarySimpa false
set_option maxHeartbeats 4000000
set_option maxRecDepth 100000

theorem order_g (x y : Int) (hx : 0 ≤ x ∧ x ≤ 1000000) (hy : 0 ≤ y ∧ y ≤ 1000000) : Does Try.prog 34 [.int .i64 x, .int .i64 y] [] (Ret (.int .i64 (x - y)) []) := by
  (focus
    refine Xg.spec_of Go.Proofs.Try.func34 rfl Go.Proofs.Try.ntmps34 fun g F => ?_)
  (focus
    refine Xg.at_seq ?_
    refine Xg.at_region ?_
    refine Xg.ops_op (by kernel_rfl) (Xg.opx_pure ((iv 0)) rfl (fun _ => by kernel_rfl) ?_)
    refine Xg.ops_nil ?_
    refine Xg.at_seq ?_
    refine Xg.at_region ?_
    refine Xg.ops_op (by kernel_rfl) (Xg.opx_pure ((iv x)) rfl (fun _ => by kernel_rfl) ?_)
    refine Xg.ops_op (by kernel_rfl) (Xg.opx_pure ((iv y)) rfl (fun _ => by kernel_rfl) ?_)
    refine Xg.ops_op (by kernel_rfl) (Xg.opx_int .i64 (IntKind.wrap .i64 ((x - y))) rfl (fun _ => by kernel_rfl) (Xg.wrap_i64_in (by omega)) ?_)
    refine Xg.ops_op (by kernel_rfl) (Xg.opx_pure ((iv (x - y))) rfl (fun _ => by kernel_rfl) ?_)
    refine Xg.ops_nil ?_
    refine Xg.at_ret_ps (v := (iv (x - y))) [] [] Go.Proofs.Try.func34 (fun _ => by kernel_rfl) (by kernel_rfl) (by kernel_rfl) ?_
    exact ⟨by kernel_rfl, by kernel_rfl⟩)
theorem bsG (a : Option Addr) (c : Nat) (l : List Int) (v : Int) (hs : ∀ i j, i ≤ j → j < l.length → l.getD i 0 ≤ l.getD j 0) (hb : ∀ i, i < l.length → 0 ≤ l.getD i 0 ∧ l.getD i 0 ≤ 1000000) (hv : 0 ≤ v ∧ v ≤ 1000000) (hl : l.length ≤ 100000) : Does Try.prog 64 [.slice a l.length c, .int .i64 v, fnO] [I2 a c l]
    (RetE (fun x : Nat × Bool => x.1 ≤ l.length ∧ (∀ j, j < x.1 → l.getD j 0 < v) ∧ ∀ j, x.1 ≤ j → j < l.length → v ≤ l.getD j 0) (fun x => .tuple #[.int .i64 (x.1 : Nat), .bool x.2]) (fun x => [I2 a c l])) := by
  have hE := enters_order
  (focus
    refine Xg.spec_of Go.Proofs.Try.func64 rfl Go.Proofs.Try.ntmps64 fun g F => ?_)
  (focus
    refine Xg.at_seq ?_
    refine Xg.at_region ?_
    refine Xg.ops_op (by kernel_rfl) (Xg.opx_pure ((iv 0)) rfl (fun _ => by kernel_rfl) ?_)
    refine Xg.ops_op (by kernel_rfl) (Xg.opx_pure ((Value.bool false)) rfl (fun _ => by kernel_rfl) ?_)
    refine Xg.ops_nil ?_
    refine Xg.at_seq ?_
    refine Xg.at_region ?_
    refine Xg.ops_op (by kernel_rfl) (Xg.opx_pure ((Value.slice a l.length c)) rfl (fun _ => by kernel_rfl) ?_)
    refine Xg.ops_op (by kernel_rfl) (Xg.opx_pure ((iv (↑l.length : Int))) rfl (fun _ => by kernel_rfl) ?_)
    refine Xg.ops_op (by kernel_rfl) (Xg.opx_pure ((iv (↑l.length : Int))) rfl (fun _ => by kernel_rfl) ?_)
    refine Xg.ops_nil ?_
    refine Xg.at_seq ?_
    refine Xg.at_region ?_
    refine Xg.ops_op (by kernel_rfl) (Xg.opx_pure ((iv (↑l.length : Int))) rfl (fun _ => by kernel_rfl) ?_)
    refine Xg.ops_op (by kernel_rfl) (Xg.opx_pure ((iv 0)) rfl (fun _ => by kernel_rfl) ?_)
    refine Xg.ops_op (by kernel_rfl) (Xg.opx_pure ((iv (↑l.length : Int))) rfl (fun _ => by kernel_rfl) ?_)
    refine Xg.ops_nil ?_
    refine Xg.at_seq ?_
    refine Xg.at_block ?_)
  (focus
    refine Xg.at_rounds_inv (α := (Nat × Nat) × (Nat → Value)) (fun x => ((fun x => x.1 ≤ x.2 ∧ x.2 ≤ l.length ∧ (∀ j, j < x.1 → l.getD j 0 < v) ∧ ∀ j, x.2 ≤ j → j < l.length → v ≤ l.getD j 0) : (Nat × Nat) → Prop) x.1) (fun x => ((fun x => x.2 - x.1) : (Nat × Nat) → Nat) x.1) (fun x => Xg.headT [Value.slice a l.length c, iv v, Value.func (Fn.func (34 : Nat)) #[] #[], tu, tu, tu, iv 0, Value.bool false, iv (↑l.length : Int), iv 0, iv (↑l.length : Int), tu, Value.slice a l.length c, iv (↑l.length : Int), iv (↑l.length : Int), tu, tu, tu, tu, tu, tu, tu, tu, tu, tu, tu, tu, tu, tu, tu, tu, tu, tu, tu, tu, tu, tu, tu, tu, tu, tu, tu, tu, tu, tu, tu, tu, tu, tu] [11, 15, 16, 17, 18, 19, 20, 21, 22, 23, 24, 25, 26, 27, 28, 29, 30, 31, 32, 33, 34] (((fun x => [(9, .int .i64 (x.1 : Nat)), (10, .int .i64 (x.2 : Nat))]) : (Nat × Nat) → List (Nat × Go.Value)) x.1) x.2) (fun x => ((fun x => [I2 a c l]) : (Nat × Nat) → List Go.Sl.HP) x.1) (((0, l.length)), fun j9 => ([Value.slice a l.length c, iv v, Value.func (Fn.func (34 : Nat)) #[] #[], tu, tu, tu, iv 0, Value.bool false, iv (↑l.length : Int), iv 0, iv (↑l.length : Int), tu, Value.slice a l.length c, iv (↑l.length : Int), iv (↑l.length : Int), tu, tu, tu, tu, tu, tu, tu, tu, tu, tu, tu, tu, tu, tu, tu, tu, tu, tu, tu, tu, tu, tu, tu, tu, tu, tu, tu, tu, tu, tu, tu, tu, tu, tu] : List Value).getD j9 undef) (by kernel_rfl) (by kernel_rfl) ?_ ?_)
  · exact ⟨Nat.zero_le _, Nat.le_refl _, fun j h => absurd h (Nat.not_lt_zero _), fun j h1 h2 => absurd h2 (Nat.not_lt.2 h1)⟩
  rintro ⟨⟨i, j⟩, J⟩ hI ih
  dsimp only at hI
  obtain ⟨hij, hjl, h1, h2⟩ := hI
  (focus
    refine Xg.At.same (T' := [Value.slice a l.length c, iv v, Value.func (Fn.func (34 : Nat)) #[] #[], tu, tu, tu, iv 0, Value.bool false, iv (↑l.length : Int), iv (↑i : Int), iv (↑j : Int), J 11, Value.slice a l.length c, iv (↑l.length : Int), iv (↑l.length : Int), J 15, J 16, J 17, J 18, J 19, J 20, J 21, J 22, J 23, J 24, J 25, J 26, J 27, J 28, J 29, J 30, J 31, J 32, J 33, J 34, tu, tu, tu, tu, tu, tu, tu, tu, tu, tu, tu, tu, tu, tu]) (L' := [I2 a c l]) (by kernel_rfl) rfl ?_)
  by_cases hlt : i < j
  · obtain ⟨h, hh⟩ : ∃ h : Nat, ((i : Int) + (j : Int)) / 2 = (h : Int) := ⟨(i + j) / 2, by omega⟩
    have hih : i ≤ h ∧ h < j := by omega
    (focus
      refine Xg.at_seq ?_
      refine Xg.at_seq ?_
      refine Xg.at_region ?_
      refine Xg.ops_op (by kernel_rfl) (Xg.opx_pure ((iv (↑i : Int))) rfl (fun _ => by kernel_rfl) ?_)
      refine Xg.ops_op (by kernel_rfl) (Xg.opx_pure ((iv (↑j : Int))) rfl (fun _ => by kernel_rfl) ?_)
      refine Xg.ops_op (by kernel_rfl) (Xg.opx_pure (.bool (decide ((((↑i : Int)) : Int) < ((↑j : Int))))) rfl (fun _ => by kernel_rfl) ?_)
      refine Xg.ops_nil ?_
      refine Xg.at_true (t := decide (((↑i : Int) < (↑j : Int)))) (by kernel_rfl) (decide_eq_true (by omega)) ?_
      refine Xg.at_skip ?_
      refine Xg.at_block ?_
      refine Xg.at_seq ?_
      refine Xg.at_region ?_
      refine Xg.ops_op (by kernel_rfl) (Xg.opx_pure ((iv (↑i : Int))) rfl (fun _ => by kernel_rfl) ?_)
      refine Xg.ops_op (by kernel_rfl) (Xg.opx_pure ((iv (↑j : Int))) rfl (fun _ => by kernel_rfl) ?_)
      refine Xg.ops_op (by kernel_rfl) (Xg.opx_int .i64 (IntKind.wrap .i64 (((↑i : Int) + (↑j : Int)))) rfl (fun _ => by kernel_rfl) (Xg.wrap_i64_in (by omega)) ?_)
      refine Xg.ops_op (by kernel_rfl) (Xg.opx_int .u64 (IntKind.wrap .u64 (((↑i : Int) + (↑j : Int)))) rfl (fun _ => by kernel_rfl) (Xg.wrap_u64_in (by omega)) ?_)
      refine Xg.ops_op (by kernel_rfl) (Xg.opx_int .u64 (Int.fdiv (((↑i : Int) + (↑j : Int))) 2) rfl (fun _ => by kernel_rfl) (Xg.shr_div _ 2 (by decide)) ?_)
      refine Xg.ops_op (by kernel_rfl) (Xg.opx_int .i64 (IntKind.wrap .i64 ((((↑i : Int) + (↑j : Int)) / (2 : Int)))) rfl (fun _ => by kernel_rfl) (Xg.wrap_i64_in (by omega)) ?_)
      refine Xg.ops_op (by kernel_rfl) (Xg.opx_pure ((iv (((↑i : Int) + (↑j : Int)) / (2 : Int)))) rfl (fun _ => by kernel_rfl) ?_)
      refine Xg.ops_nil ?_
      refine Xg.at_seq ?_
      refine Xg.at_region ?_
      refine Xg.ops_op (by kernel_rfl) (Xg.opx_pure ((Value.func (Fn.func (34 : Nat)) #[] #[])) rfl (fun _ => by kernel_rfl) ?_)
      refine Xg.ops_op (by kernel_rfl) (Xg.opx_pure ((Value.slice a l.length c)) rfl (fun _ => by kernel_rfl) ?_)
      refine Xg.ops_op (by kernel_rfl) (Xg.opx_pure ((iv (((↑i : Int) + (↑j : Int)) / (2 : Int)))) rfl (fun _ => by kernel_rfl) ?_)
      refine Xg.ops_op (by kernel_rfl) (Xg.opx_ix_own (elem := 3) (kd := .i64) (e := (((↑i : Int) + (↑j : Int)) / (2 : Int))) 0 1 ((((↑i : Int) + (↑j : Int)) / (2 : Int)).toNat) ((((↑i : Int) + (↑j : Int)) / (2 : Int)).toNat) rfl (by kernel_rfl) (by kernel_rfl) (by kernel_rfl) (by kernel_rfl) (by omega) (by omega) (by omega) ?_)
      refine Xg.ops_op (by kernel_rfl) (Xg.opx_load_own (a := a) (off := ((((↑i : Int) + (↑j : Int)) / (2 : Int)).toNat)) 0 (iv (l.getD (((↑i : Int) + (↑j : Int)) / (2 : Int)).toNat (0 : Int))) rfl (by kernel_rfl) (Xg.get_ints (by omega)) (by kernel_rfl) ?_)
      refine Xg.ops_op (by kernel_rfl) (Xg.opx_pure ((iv v)) rfl (fun _ => by kernel_rfl) ?_))
    rw [hh, Int.toNat_natCast]
    have ho := order_g (l.getD h 0) v (hb h (by omega)) hv
    refine Xg.ops_op (by kernel_rfl) (Xg.opx_call1' (args := [.int .i64 (l.getD h 0), .int .i64 v]) [] [I2 a c l] (fun w' => Eq.trans (b := Sem.run Try.prog (callFunc 34 #[.int .i64 (l.getD h 0), .int .i64 v]) w') (by kernel_rfl) (hE _ w')) ho (by kernel_rfl) rfl rfl ?_)
    by_cases hc : l.getD h 0 < v
    · (focus
        refine Xg.ops_op (by kernel_rfl) (Xg.opx_pure (.bool (decide (((l.getD h (0 : Int) - v) : Int) < ((0 : Int))))) rfl (fun _ => by kernel_rfl) ?_)
        refine Xg.ops_nil ?_
        refine Xg.at_true (t := decide ((l.getD h (0 : Int) - v < (0 : Int)))) (by kernel_rfl) (decide_eq_true (by omega)) ?_
        refine Xg.at_region ?_
        refine Xg.ops_op (by kernel_rfl) (Xg.opx_pure ((iv (↑h : Int))) rfl (fun _ => by kernel_rfl) ?_)
        refine Xg.ops_op (by kernel_rfl) (Xg.opx_int .i64 (IntKind.wrap .i64 (((↑h : Int) + (1 : Int)))) rfl (fun _ => by kernel_rfl) (Xg.wrap_i64_in (by omega)) ?_)
        refine Xg.ops_op (by kernel_rfl) (Xg.opx_pure ((iv ((↑h : Int) + (1 : Int)))) rfl (fun _ => by kernel_rfl) ?_)
        refine Xg.ops_nil ?_
        refine Xg.at_inBlock ?_
        refine Xg.at_inLoop ?_)
      (focus
        refine Xg.at_keep [0] (by kernel_rfl) ?_
        refine Xs.same ?_ (fun J9 => ih (((h + 1, j)), J9) ?_ ?_) (by kernel_rfl))
      · rfl
      · exact ⟨by dsimp only; omega, hjl, fun q hq => by
          dsimp only at hq
          have := hs q h (by omega) (by omega)
          omega, h2⟩
      · dsimp only; omega
    · (focus
        refine Xg.ops_op (by kernel_rfl) (Xg.opx_pure (.bool (decide (((l.getD h (0 : Int) - v) : Int) < ((0 : Int))))) rfl (fun _ => by kernel_rfl) ?_)
        refine Xg.ops_nil ?_
        refine Xg.at_false (t := decide ((l.getD h (0 : Int) - v < (0 : Int)))) (by kernel_rfl) (decide_eq_false (by omega)) ?_
        refine Xg.at_region ?_
        refine Xg.ops_op (by kernel_rfl) (Xg.opx_pure ((iv (↑h : Int))) rfl (fun _ => by kernel_rfl) ?_)
        refine Xg.ops_op (by kernel_rfl) (Xg.opx_pure ((iv (↑h : Int))) rfl (fun _ => by kernel_rfl) ?_)
        refine Xg.ops_nil ?_
        refine Xg.at_inBlock ?_
        refine Xg.at_inLoop ?_)
      (focus
        refine Xg.at_keep [0] (by kernel_rfl) ?_
        refine Xs.same ?_ (fun J9 => ih (((i, h)), J9) ?_ ?_) (by kernel_rfl))
      · rfl
      · exact ⟨by dsimp only; omega, by dsimp only; omega, h1, fun q hq hq2 => by
          dsimp only at hq
          have := hs h q (by omega) (by omega)
          omega⟩
      · dsimp only; omega
  · obtain rfl : i = j := by omega
    clear ih
    by_cases hn : i < l.length
    · (focus
        refine Xg.at_seq ?_
        refine Xg.at_seq ?_
        refine Xg.at_region ?_
        refine Xg.ops_op (by kernel_rfl) (Xg.opx_pure ((iv (↑i : Int))) rfl (fun _ => by kernel_rfl) ?_)
        refine Xg.ops_op (by kernel_rfl) (Xg.opx_pure ((iv (↑i : Int))) rfl (fun _ => by kernel_rfl) ?_)
        refine Xg.ops_op (by kernel_rfl) (Xg.opx_pure (.bool (decide ((((↑i : Int)) : Int) < ((↑i : Int))))) rfl (fun _ => by kernel_rfl) ?_)
        refine Xg.ops_nil ?_
        refine Xg.at_false (t := decide (((↑i : Int) < (↑i : Int)))) (by kernel_rfl) (decide_eq_false (by omega)) ?_
        refine Xg.at_exit rfl ?_
        refine Xg.at_seq ?_
        refine Xg.at_region ?_
        refine Xg.ops_op (by kernel_rfl) (Xg.opx_pure ((iv (↑i : Int))) rfl (fun _ => by kernel_rfl) ?_)
        refine Xg.ops_op (by kernel_rfl) (Xg.opx_pure ((iv (↑i : Int))) rfl (fun _ => by kernel_rfl) ?_)
        refine Xg.ops_op (by kernel_rfl) (Xg.opx_pure ((iv (↑l.length : Int))) rfl (fun _ => by kernel_rfl) ?_)
        refine Xg.ops_op (by kernel_rfl) (Xg.opx_pure (.bool (decide ((((↑i : Int)) : Int) < ((↑l.length : Int))))) rfl (fun _ => by kernel_rfl) ?_)
        refine Xg.ops_op (by kernel_rfl) (Xg.opx_pure ((Value.bool (decide ((↑i : Int) < (↑l.length : Int))))) rfl (fun _ => by kernel_rfl) ?_)
        refine Xg.ops_flag (j := 39) (c := (decide ((↑i : Int) < (↑l.length : Int)))) (by kernel_rfl) (fun _ => ?_) (fun xh1 => absurd (of_decide_eq_false xh1) (by omega))
        refine Xg.ops_op (by kernel_rfl) (Xg.opx_pure ((Value.func (Fn.func (34 : Nat)) #[] #[])) rfl (fun _ => by kernel_rfl) ?_)
        refine Xg.ops_op (by kernel_rfl) (Xg.opx_pure ((Value.slice a l.length c)) rfl (fun _ => by kernel_rfl) ?_)
        refine Xg.ops_op (by kernel_rfl) (Xg.opx_pure ((iv (↑i : Int))) rfl (fun _ => by kernel_rfl) ?_)
        refine Xg.ops_op (by kernel_rfl) (Xg.opx_ix_own (elem := 3) (kd := .i64) (e := ((↑i : Int))) 0 1 i i rfl (by kernel_rfl) (by kernel_rfl) (by kernel_rfl) (by kernel_rfl) rfl (by omega) (by omega) ?_)
        refine Xg.ops_op (by kernel_rfl) (Xg.opx_load_own (a := a) (off := i) 0 (iv (l.getD i (0 : Int))) rfl (by kernel_rfl) (Xg.get_ints (by omega)) (by kernel_rfl) ?_)
        refine Xg.ops_op (by kernel_rfl) (Xg.opx_pure ((iv v)) rfl (fun _ => by kernel_rfl) ?_))
      have ho := order_g (l.getD i 0) v (hb i hn) hv
      refine Xg.ops_op (by kernel_rfl) (Xg.opx_call1' (args := [.int .i64 (l.getD i 0), .int .i64 v]) [] [I2 a c l] (fun w' => Eq.trans (b := Sem.run Try.prog (callFunc 34 #[.int .i64 (l.getD i 0), .int .i64 v]) w') (by kernel_rfl) (hE _ w')) ho (by kernel_rfl) rfl rfl ?_)
      (focus
        refine Xg.ops_op (by kernel_rfl) (Xg.opx_pure (.bool (decide (((l.getD i (0 : Int) - v) : Int) = ((0 : Int))))) rfl (fun _ => by kernel_rfl) ?_)
        refine Xg.ops_flag (j := 47) (c := (decide (l.getD i (0 : Int) - v = (0 : Int)))) (by kernel_rfl) (fun xh1 => ?_) (fun xh1 => ?_)
        replace xh1 : (l.getD i (0 : Int) - v = (0 : Int)) := of_decide_eq_true xh1
        rotate_left
        replace xh1 : ¬ ((l.getD i (0 : Int) - v = (0 : Int))) := of_decide_eq_false xh1
        rotate_right
        refine Xg.ops_op (by kernel_rfl) (Xg.opx_pure ((Value.bool true)) rfl (fun _ => by kernel_rfl) ?_)
        refine Xg.ops_op (by kernel_rfl) (Xg.opx_pure ((iv (↑i : Int))) rfl (fun _ => by kernel_rfl) ?_)
        refine Xg.ops_op (by kernel_rfl) (Xg.opx_pure ((Value.bool true)) rfl (fun _ => by kernel_rfl) ?_)
        refine Xg.ops_nil ?_
        refine Xg.at_ret_ps (v := (Value.tuple #[iv (↑i : Int), Value.bool true])) [0] [I2 a c l] Go.Proofs.Try.func64 (fun _ => by kernel_rfl) (by kernel_rfl) (by kernel_rfl) ?_
        refine ⟨((i, true)), ?_, by kernel_rfl, by kernel_rfl⟩
        rotate_left
        refine Xg.ops_op (by kernel_rfl) (Xg.opx_pure ((Value.bool false)) rfl (fun _ => by kernel_rfl) ?_)
        refine Xg.ops_op (by kernel_rfl) (Xg.opx_pure ((iv (↑i : Int))) rfl (fun _ => by kernel_rfl) ?_)
        refine Xg.ops_op (by kernel_rfl) (Xg.opx_pure ((Value.bool false)) rfl (fun _ => by kernel_rfl) ?_)
        refine Xg.ops_nil ?_
        refine Xg.at_ret_ps (v := (Value.tuple #[iv (↑i : Int), Value.bool false])) [0] [I2 a c l] Go.Proofs.Try.func64 (fun _ => by kernel_rfl) (by kernel_rfl) (by kernel_rfl) ?_
        refine ⟨((i, false)), ?_, by kernel_rfl, by kernel_rfl⟩)
      all_goals exact ⟨hjl, h1, h2⟩
    · (focus
        refine Xg.at_seq ?_
        refine Xg.at_seq ?_
        refine Xg.at_region ?_
        refine Xg.ops_op (by kernel_rfl) (Xg.opx_pure ((iv (↑i : Int))) rfl (fun _ => by kernel_rfl) ?_)
        refine Xg.ops_op (by kernel_rfl) (Xg.opx_pure ((iv (↑i : Int))) rfl (fun _ => by kernel_rfl) ?_)
        refine Xg.ops_op (by kernel_rfl) (Xg.opx_pure (.bool (decide ((((↑i : Int)) : Int) < ((↑i : Int))))) rfl (fun _ => by kernel_rfl) ?_)
        refine Xg.ops_nil ?_
        refine Xg.at_false (t := decide (((↑i : Int) < (↑i : Int)))) (by kernel_rfl) (decide_eq_false (by omega)) ?_
        refine Xg.at_exit rfl ?_
        refine Xg.at_seq ?_
        refine Xg.at_region ?_
        refine Xg.ops_op (by kernel_rfl) (Xg.opx_pure ((iv (↑i : Int))) rfl (fun _ => by kernel_rfl) ?_)
        refine Xg.ops_op (by kernel_rfl) (Xg.opx_pure ((iv (↑i : Int))) rfl (fun _ => by kernel_rfl) ?_)
        refine Xg.ops_op (by kernel_rfl) (Xg.opx_pure ((iv (↑l.length : Int))) rfl (fun _ => by kernel_rfl) ?_)
        refine Xg.ops_op (by kernel_rfl) (Xg.opx_pure (.bool (decide ((((↑i : Int)) : Int) < ((↑l.length : Int))))) rfl (fun _ => by kernel_rfl) ?_)
        refine Xg.ops_op (by kernel_rfl) (Xg.opx_pure ((Value.bool (decide ((↑i : Int) < (↑l.length : Int))))) rfl (fun _ => by kernel_rfl) ?_)
        refine Xg.ops_flag (j := 39) (c := (decide ((↑i : Int) < (↑l.length : Int)))) (by kernel_rfl) (fun xh1 => absurd (of_decide_eq_true xh1) (by omega)) (fun _ => ?_)
        refine Xg.ops_skip (by kernel_rfl) ?_
        refine Xg.ops_skip (by kernel_rfl) ?_
        refine Xg.ops_skip (by kernel_rfl) ?_
        refine Xg.ops_skip (by kernel_rfl) ?_
        refine Xg.ops_skip (by kernel_rfl) ?_
        refine Xg.ops_skip (by kernel_rfl) ?_
        refine Xg.ops_skip (by kernel_rfl) ?_
        refine Xg.ops_skip (by kernel_rfl) ?_
        refine Xg.ops_op (by kernel_rfl) (Xg.opx_pure ((Value.bool false)) rfl (fun _ => by kernel_rfl) ?_)
        refine Xg.ops_op (by kernel_rfl) (Xg.opx_pure ((iv (↑i : Int))) rfl (fun _ => by kernel_rfl) ?_)
        refine Xg.ops_op (by kernel_rfl) (Xg.opx_pure ((Value.bool false)) rfl (fun _ => by kernel_rfl) ?_)
        refine Xg.ops_nil ?_
        refine Xg.at_ret_ps (v := (Value.tuple #[iv (↑i : Int), Value.bool false])) [0] [I2 a c l] Go.Proofs.Try.func64 (fun _ => by kernel_rfl) (by kernel_rfl) (by kernel_rfl) ?_
        refine ⟨((i, false)), ?_, by kernel_rfl, by kernel_rfl⟩)
      exact ⟨hjl, h1, h2⟩
end Go.Proofs.Ytmplimmcjdkhlaa
