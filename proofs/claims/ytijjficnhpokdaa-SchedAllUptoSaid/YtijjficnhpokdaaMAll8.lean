import Derived.Test.YtijjficnhpokdaaMAll7
import Derived.ChangeMaps5
/- Arguments: slices of integers, read. Over any program. -/
namespace Go.Xg
open Go Go.Sl
set_option linter.unusedVariables false

/-- Cells that the world holds. -/
theorem reads_old {w : World} {sz n c : Nat} {a : Option Addr} {vs : List Value} (hl : vs.length = n * sz) (h : ∀ j u, vs[j]? = some u → ∃ ad, a = some ad ∧ w.cell? (ad.add j) = some u) :
    Reads (old w) sz (.slice a n c) n vs :=
  ⟨fun g F w' hS => ⟨a, c, rfl, hl, fun j u hu => by
    obtain ⟨ad, h1, h2⟩ := h j u hu
    exact ⟨ad, h1, old_cell hS (.head _) h2⟩⟩⟩

end Go.Xg

/- Parts of what is only read. Over any program. -/
namespace Go.Xg
open Go Go.Sl
set_option linter.unusedVariables false

end Go.Xg

/- Symbolic running: rows that are spelled by a function of a state (arrays within a struct): what is read, what is written. Over any program. -/
namespace Go.Xg
open Go Go.Sl
set_option linter.unusedVariables false

def Gets (cs : List Value) (off : Nat) (v : Value) : Prop := cs[off]? = some v
def Has (cs : List Value) (off : Nat) (vs : List Value) : Prop := ∀ j v, vs[j]? = some v → cs[off + j]? = some v
def Sets (cs : List Value) (off : Nat) (v : Value) (cs' : List Value) : Prop := off < cs.length ∧ cs.set off v = cs'
def Puts (cs : List Value) (off : Nat) (vs : List Value) (cs' : List Value) : Prop := off + vs.length ≤ cs.length ∧ cs.take off ++ vs ++ cs.drop (off + vs.length) = cs'

/-- A stretch of integers. -/
def seg (k : IntKind) (n : Nat) (f : Nat → Int) : List Value := (List.range n).map fun i => Value.int k (f i)
def upd (f : Nat → Int) (i : Nat) (v : Int) : Nat → Int := fun j => if j = i then v else f j
section
variable {P : Program} {g : World} {F : List HP} {T : List Value} {L : List HP} {K : List Value → List HP → Prop}

theorem exec_clear (ρ : Operand → Value) {dst : Option Tmp} {ats : Array TypeId} {ty : TypeId} {x : Operand} {pos : String} {after : Array Edge} {gd : Option (Nat × Bool)} {v : Value} {w w' : World}
    (h : (Builtin.clear_ ats ty #[ρ x]).run P w = .ok v w') :
    (execOp ρ { dst, op := .call { callee := .builtin .clear, args := #[x], argTypes := ats }, type := ty, pos, after, guard := gd }).run P w = .ok (.value v) w' := by
  rw [BigFrame.execOp_builtin, BigFrame.builtin_clear]
  simp [h]

end

/-! ### long zeros, told by runs -/
def isV (v w : Value) : Bool := match v, w with
  | .int k n, .int k' n' => (k == k') && decide (n = n')
  | .bool a, .bool b => a == b
  | _, _ => false
def eat : List Value → Nat → Value → List (Nat × Value) → Bool
  | [], n, _, r => n == 0 && r.isEmpty
  | x :: l, n, v, r => match n with
    | n + 1 => isV x v && eat l n v r
    | 0 => match r with
      | (m + 1, v') :: r' => isV x v' && eat l m v' r'
      | _ => false
def runs : List (Nat × Value) → List Value
  | [] => []
  | (n, v) :: r => List.replicate n v ++ runs r
/-- A type's zero, spelled by a function of a state. -/
def IsZero (P : Program) (t : TypeId) (cs : List Value) : Prop := ∃ z sz by_, El P t z sz by_ ∧ z.cells = cs.toArray
def IsZeroA (P : Program) (t : TypeId) (cs : List Value) : Prop := ∃ sz by_, El P t (.agg cs.toArray) sz by_ ∧ ∃ fields places, P.underlying t = some (.struct fields) ∧
  ∀ w, (fields.mapM fun f => do pure (f.offset, ← sizeOf f.type) : Sem (Array (Nat × Nat))).run P w = .ok places w
/-- make, of many: a list of zeros of which only this is known. -/
theorem opx_make_hid {P : Program} {g : World} {F : List HP} {T : List Value} {L : List HP} {K : List Value → List HP → Prop} {d : Nat} {t ty elem : TypeId} {x y : Operand} {pos : String} {after : Array Edge} {gd : Option (Nat × Bool)} {kd k1 k2 : IntKind} {by_ : Nat} {n c : Int} (nn cc : Nat)
    (hu : slTy P t elem = true) (hE : intTy P elem kd by_ = true) (hx : ev T x = .int k1 n) (hy : ev T y = .int k2 c) (hn : n = nn) (hc : c = cc) (hle : nn ≤ cc) (hb : by_ * cc ≤ 140737488351232 ∧ cc ≤ 140737488351232)
    (h : ∀ a (xs : List Int), a.isNone = false → xs.length = nn → (∀ i, xs.getD i 0 = 0) → K (T.set d (.slice a xs.length cc)) (ints elem kd a cc xs :: L)) :
    OpX P g F { dst := some d, op := .makeSlice t x y, type := ty, pos, after, guard := gd } T L K :=
  opx_make_ints nn cc (List.replicate nn 0) hu hE hx hy hn hc hle hb rfl fun a ha => h a _ ha List.length_replicate fun i => by
    simp only [List.getD, List.getElem?_replicate]
    split <;> rfl

/-- A number is stored in a slice of one's own. -/
theorem opx_store_own_i {P : Program} {g : World} {F : List HP} {T : List Value} {L : List HP} {K : List Value → List HP → Prop} {t ty : TypeId} {x y : Operand} {pos : String} {after : Array Edge} {gd : Option (Nat × Bool)} {E n c off : Nat} {a : Option Addr} {kd : IntKind} {xs : List Int} {e : Int} (i : Nat)
    (hE : okTy P t 1 = true) (hL : nth L i = some (ownS E 1 (.slice a n c) n (xs.map (Value.int kd)))) (hx : ev T x = .pointer (some ⟨blk a, off, none⟩)) (hy : ev T y = .int kd e) (ho : off < xs.length)
    (h : K T (L.set i (ownS E 1 (.slice a n c) n ((xs.set off e).map (Value.int kd))))) : OpX P g F { dst := none, op := .store t x y, type := ty, pos, after, guard := gd } T L K := by
  refine opx_store_own i (.int kd e) hE hL hx hy rfl (by simpa using ho) ?_
  rw [← List.map_set]; exact h
end Go.Xg

/- Symbolic running: slices of records of one's own. Over any program. -/
namespace Go.Xg
open Go Go.Sl
set_option linter.unusedVariables false

/-- A slice of records of one's own. -/
abbrev recsO {α : Type} (E sz : Nat) (cells : α → List Value) (a : Option Addr) (c : Nat) (l : List α) : HP := ownS E sz (.slice a l.length c) l.length (recs cells l)

def okTyB (P : Program) (t : TypeId) (sz B : Nat) : Bool := okTy P t sz && (match P.info? t with
  | some i => decide (i.bytes ≤ B)
  | none => false)
theorem okTyB_el {P : Program} {t : TypeId} {sz B : Nat} (h : okTyB P t sz B = true) : ∃ z by_, El P t z sz by_ ∧ by_ ≤ B := by
  unfold okTyB at h
  simp only [Bool.and_eq_true] at h
  obtain ⟨z, by_, i, hi, h1, h2, h3, h4⟩ := okTy_el h.1
  have := h.2
  rw [hi] at this
  simp only [decide_eq_true_eq] at this
  exact ⟨z, by_, ⟨i, hi, h1, h2, h3, h4⟩, by rw [← h3]; exact this⟩

section
variable {P : Program} {f : FuncId} {g : World} {F : List HP} {R : Ending → World → Prop} {k : List Item} {T : List Value} {L : List HP} {K : List Value → List HP → Prop}

theorem at_nil_own (E sz : Nat) (h : At P f g F R k T (ownS E sz (.slice none 0 0) 0 [] :: L)) : At P f g F R k T L := h.sl fun w hS => hS.own_nil E sz

theorem opx_append_recs {α : Type} {cells : α → List Value} {d : Nat} {t ty elem : TypeId} {x y : Operand} {pos : String} {after : Array Edge} {gd : Option (Nat × Bool)} {yv : Value} {a : Option Addr} {c : Nat} {l : List α} (i sz B : Nat) (r : α)
    (hL : nth L i = some (recsO elem sz cells a c l)) (hu : slTy P t elem = true) (hE : okTyB P elem sz B = true) (hx : ev T x = .slice a l.length c) (hy : ev T y = yv) (hr : ∀ w, SL g (L ++ F) w → Rd w sz yv 1 (cells r)) (h1 : (cells r).all (·.oneCell') = true)
    (hfit : (l.length + 1) * B ≤ 140737488351232) (h63 : l.length + 1 ≤ 140737488351232)
    (h : ∀ a' c', K (T.set d (.slice a' (l ++ [r]).length c')) (L.set i (recsO elem sz cells a' c' (l ++ [r])))) :
    OpX P g F { dst := some d, op := .call { callee := .builtin .append, args := #[x, y], argTypes := #[t, t] }, type := ty, pos, after, guard := gd } T L K := by
  obtain ⟨z, by_, hE, hB⟩ := okTyB_el hE
  have hb : (l.length + 1) * by_ ≤ (l.length + 1) * B := Nat.mul_le_mul_left _ hB
  refine opx_append i sz by_ z hL hu hE hx hy hr (fun u hu => List.all_eq_true.1 h1 u hu) (by unfold maxLen; omega) (by omega) fun a' c' => ?_
  have := h a' c'
  have el : (l ++ [r]).length = l.length + 1 := by simp
  have ec : recs cells (l ++ [r]) = recs cells l ++ cells r := by simp [recs]
  unfold recsO at this
  rw [el, ec] at this
  exact this
end
end Go.Xg

/- A cut: what a piece of code does is shown once, and what stands behind it is walked once. -/
namespace Go.Xg
open Go Go.Sl
section
variable {P : Program} {f : FuncId} {g : World} {F : List HP} {R : Ending → World → Prop} {k : List Item} {T : List Value} {L : List HP}
theorem at_cut {α : Type _} {c : Code} (I : α → Prop) (HT : α → List Value) (HL : α → List HP)
    (h1 : ∀ k', (∀ y, I y → At P f g F R k' (HT y) (HL y)) → At P f g F R (.code c :: k') T L)
    (h2 : ∀ y, I y → At P f g F R k (HT y) (HL y)) : At P f g F R (.code c :: k) T L := h1 k h2
end
end Go.Xg

/- Short names for printed proofs. -/
namespace Go.Xg
open Go.Sl
abbrev tu : Value := .tuple #[]
abbrev iv (n : Int) : Value := .int .i64 n
abbrev uv (n : Int) : Value := .int .u8 n
abbrev pv (b o : Nat) : Value := .pointer (some ⟨b, o, none⟩)
end Go.Xg
namespace Xs
open Go Go.Sl Go.Xg
variable {P : Program} {f : FuncId} {g : World} {F : List HP} {R : Ending → World → Prop} {k : List Item} {T : List Value} {L L' : List HP}
/-- A round's end: the other slots are what they are. -/
theorem same {HT : (Nat → Value) → List Value} {HL : (Nat → Value) → List HP} (eL : L = HL (fun j => T.getD j undef)) (h : ∀ J, At P f g F R k (HT J) (HL J)) (eT : T = HT (fun j => T.getD j undef)) : At P f g F R k T L := by
  rw [eL]
  generalize (fun j => T.getD j undef) = J at *
  subst eT
  exact h J
end Xs
