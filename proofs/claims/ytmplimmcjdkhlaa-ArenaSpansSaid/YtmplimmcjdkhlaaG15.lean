/- Symbolic running: slices of records of one's own. Over any program. -/
import Derived.Test.YtmplimmcjdkhlaaG14
namespace Go.Xg
open Go Go.Sl
set_option linter.unusedVariables false

/-- A slice of records of one's own. -/
abbrev recsO {α : Type} (E sz : Nat) (cells : α → List Value) (a : Option Addr) (c : Nat) (l : List α) : HP := ownS E sz (.slice a l.length c) l.length (recs cells l)

def okTyB (P : Program) (t : TypeId) (sz B : Nat) : Bool := okTy P t sz && (match P.info? t with
  | some i => decide (i.bytes ≤ B)
  | none => false)
theorem okTyB_el {P : Program} {t : TypeId} {sz B : Nat} (h : okTyB P t sz B = true) : ∃ z by_, El P t z sz by_ ∧ by_ ≤ B := by
  unfold okTyB at h
  simp only [Bool.and_eq_true] at h
  obtain ⟨z, by_, i, hi, h1, h2, h3, h4⟩ := okTy_el h.1
  have := h.2
  rw [hi] at this
  simp only [decide_eq_true_eq] at this
  exact ⟨z, by_, ⟨i, hi, h1, h2, h3, h4⟩, by rw [← h3]; exact this⟩

section
variable {P : Program} {f : FuncId} {g : World} {F : List HP} {R : Ending → World → Prop} {k : List Item} {T : List Value} {L : List HP} {K : List Value → List HP → Prop}

theorem at_nil_own (E sz : Nat) (h : At P f g F R k T (ownS E sz (.slice none 0 0) 0 [] :: L)) : At P f g F R k T L := h.sl fun w hS => hS.own_nil E sz

theorem opx_append_recs {α : Type} {cells : α → List Value} {d : Nat} {t ty elem : TypeId} {x y : Operand} {pos : String} {after : Array Edge} {gd : Option (Nat × Bool)} {yv : Value} {a : Option Addr} {c : Nat} {l : List α} (i sz B : Nat) (r : α)
    (hL : nth L i = some (recsO elem sz cells a c l)) (hu : slTy P t elem = true) (hE : okTyB P elem sz B = true) (hx : ev T x = .slice a l.length c) (hy : ev T y = yv) (hr : ∀ w, SL g (L ++ F) w → Rd w sz yv 1 (cells r)) (h1 : (cells r).all (·.oneCell') = true)
    (hfit : (l.length + 1) * B ≤ 140737488351232) (h63 : l.length + 1 ≤ 140737488351232)
    (h : ∀ a' c', K (T.set d (.slice a' (l ++ [r]).length c')) (L.set i (recsO elem sz cells a' c' (l ++ [r])))) :
    OpX P g F { dst := some d, op := .call { callee := .builtin .append, args := #[x, y], argTypes := #[t, t] }, type := ty, pos, after, guard := gd } T L K := by
  obtain ⟨z, by_, hE, hB⟩ := okTyB_el hE
  have hb : (l.length + 1) * by_ ≤ (l.length + 1) * B := Nat.mul_le_mul_left _ hB
  refine opx_append i sz by_ z hL hu hE hx hy hr (fun u hu => List.all_eq_true.1 h1 u hu) (by unfold maxLen; omega) (by omega) fun a' c' => ?_
  have := h a' c'
  have el : (l ++ [r]).length = l.length + 1 := by simp
  have ec : recs cells (l ++ [r]) = recs cells l ++ cells r := by simp [recs]
  unfold recsO at this
  rw [el, ec] at this
  exact this
end
end Go.Xg
