import Derived.Test.YthjhkondmobaeaaDoorMRam9
import Derived.ChangeMaps5
/- Arguments: slices of integers, read. Over any program. -/
namespace Go.Xg
open Go Go.Sl
set_option linter.unusedVariables false

theorem open_ints_rd {H : Type} {enc : TypeId × Value → H} {P : Program} {w : World} {sp : Nat → Bool} {held : Bool} {t e : TypeId} {kd : IntKind} {a : Option Addr} {n c : Nat} {d : DataW H} {ps : List MemPlace}
    (ht : P.underlying t = some (.slice e)) (he : P.underlying e = some (.int kd)) (hce : P.cellsOf e = 1) (h : DataW.Trod enc P w 0 sp held t (.slice a n c) d ps) :
    ∃ xs : List Int, xs.length = n ∧ n ≤ maxLen ∧ (∀ x ∈ xs, (Lit.int kd x).wf = true) ∧ ∀ j u, (xs.map (Value.int kd))[j]? = some u → ∃ ad, a = some ad ∧ w.cell? (ad.add j) = some u := by
  obtain ⟨fuel, hf⟩ := h
  rcases ChangeShapes.open_ints ht he hce hf with ⟨hcs, _⟩ | ⟨x, l, c', zs, hcs, _, hl, hm, hz, _, hcell, hwz⟩
  · simp [Value.cells] at hcs
    obtain ⟨rfl, rfl, rfl⟩ := hcs
    exact ⟨[], rfl, Nat.zero_le _, by simp, by simp⟩
  · simp [Value.cells] at hcs
    obtain ⟨rfl, rfl, rfl⟩ := hcs
    have hle : n ≤ zs.length := by rw [hz]; split <;> omega
    refine ⟨zs.take n, by simp [hle], by omega, fun y hy => hwz y (List.mem_of_mem_take hy), fun j u hu => ⟨x, rfl, ?_⟩⟩
    rw [List.getElem?_map, List.getElem?_take] at hu
    split at hu
    · rename_i hj
      rw [hcell j (by omega)]
      rw [List.getElem?_eq_getElem (by omega)] at hu
      simp at hu
      rw [← hu]
      simp [List.getD, show j < zs.length by omega]
    · cases hu

end Go.Xg

/- Parts of what is only read. Over any program. -/
namespace Go.Xg
open Go Go.Sl
set_option linter.unusedVariables false

theorem add_add' (a : Addr) (i j : Nat) : (a.add i).add j = a.add (i + j) := by
  unfold Addr.add
  by_cases hi : i = 0
  · subst hi; simp
  · by_cases hj : j = 0
    · subst hj; simp [hi]
    · have : i + j ≠ 0 := by omega
      simp [hi, hj, Nat.add_assoc]

theorem reads_sub {A : HP} {sz n c : Nat} {a : Option Addr} {vs : List Value} (hr : Reads A sz (.slice a n c) n vs) (l : Nat) (hl : l ≤ n) (hc : n ≤ c) :
    Reads A sz (.slice (subA a c l sz) (n - l) (c - l)) (n - l) (vs.drop (l * sz)) := by
  refine ⟨fun g F w hS => ?_⟩
  obtain ⟨a', c', e, h1, h2⟩ := hr.run g F w hS
  cases e
  refine ⟨_, _, rfl, ?_, fun j u hu => ?_⟩
  · rw [List.length_drop, h1, ← Nat.sub_mul]
  · rw [List.getElem?_drop] at hu
    obtain ⟨ad, rfl, h3⟩ := h2 _ _ hu
    unfold subA
    have hlt := (List.getElem?_eq_some_iff.1 hu).1
    rw [h1] at hlt
    have hne : l < n := by
      rcases Nat.lt_or_ge l n with h | h
      · exact h
      · exfalso
        obtain rfl : l = n := by omega
        omega
    rw [if_neg (by omega)]
    exact ⟨ad.add (l * sz), rfl, by rw [add_add']; exact h3⟩

theorem reads_sub1 {A : HP} {n c : Nat} {a : Option Addr} {kd : IntKind} {xs : List Int} (hr : Reads A 1 (.slice a n c) n (xs.map (Value.int kd))) (l : Nat) (hl : l ≤ n) (hc : n ≤ c) :
    Reads A 1 (.slice (subA a c l 1) (n - l) (c - l)) (n - l) ((xs.drop l).map (Value.int kd)) := by
  have := reads_sub hr l hl hc
  rwa [Nat.mul_one, ← List.map_drop] at this

end Go.Xg

/- Symbolic running: rows that are spelled by a function of a state (arrays within a struct): what is read, what is written. Over any program. -/
namespace Go.Xg
open Go Go.Sl
set_option linter.unusedVariables false

def Gets (cs : List Value) (off : Nat) (v : Value) : Prop := cs[off]? = some v
def Has (cs : List Value) (off : Nat) (vs : List Value) : Prop := ∀ j v, vs[j]? = some v → cs[off + j]? = some v
def Sets (cs : List Value) (off : Nat) (v : Value) (cs' : List Value) : Prop := off < cs.length ∧ cs.set off v = cs'
def Puts (cs : List Value) (off : Nat) (vs : List Value) (cs' : List Value) : Prop := off + vs.length ≤ cs.length ∧ cs.take off ++ vs ++ cs.drop (off + vs.length) = cs'

/-- A stretch of integers. -/
def seg (k : IntKind) (n : Nat) (f : Nat → Int) : List Value := (List.range n).map fun i => Value.int k (f i)
def upd (f : Nat → Int) (i : Nat) (v : Int) : Nat → Int := fun j => if j = i then v else f j
section
variable {P : Program} {g : World} {F : List HP} {T : List Value} {L : List HP} {K : List Value → List HP → Prop}

end

/-! ### long zeros, told by runs -/
def isV (v w : Value) : Bool := match v, w with
  | .int k n, .int k' n' => (k == k') && decide (n = n')
  | .bool a, .bool b => a == b
  | _, _ => false
def eat : List Value → Nat → Value → List (Nat × Value) → Bool
  | [], n, _, r => n == 0 && r.isEmpty
  | x :: l, n, v, r => match n with
    | n + 1 => isV x v && eat l n v r
    | 0 => match r with
      | (m + 1, v') :: r' => isV x v' && eat l m v' r'
      | _ => false
def runs : List (Nat × Value) → List Value
  | [] => []
  | (n, v) :: r => List.replicate n v ++ runs r
/-- A type's zero, spelled by a function of a state. -/
def IsZero (P : Program) (t : TypeId) (cs : List Value) : Prop := ∃ z sz by_, El P t z sz by_ ∧ z.cells = cs.toArray
def IsZeroA (P : Program) (t : TypeId) (cs : List Value) : Prop := ∃ sz by_, El P t (.agg cs.toArray) sz by_ ∧ ∃ fields places, P.underlying t = some (.struct fields) ∧
  ∀ w, (fields.mapM fun f => do pure (f.offset, ← sizeOf f.type) : Sem (Array (Nat × Nat))).run P w = .ok places w
/-- make, of many: a list of zeros of which only this is known. -/
theorem opx_make_hid {P : Program} {g : World} {F : List HP} {T : List Value} {L : List HP} {K : List Value → List HP → Prop} {d : Nat} {t ty elem : TypeId} {x y : Operand} {pos : String} {after : Array Edge} {gd : Option (Nat × Bool)} {kd k1 k2 : IntKind} {by_ : Nat} {n c : Int} (nn cc : Nat)
    (hu : slTy P t elem = true) (hE : intTy P elem kd by_ = true) (hx : ev T x = .int k1 n) (hy : ev T y = .int k2 c) (hn : n = nn) (hc : c = cc) (hle : nn ≤ cc) (hb : by_ * cc ≤ 140737488351232 ∧ cc ≤ 140737488351232)
    (h : ∀ a (xs : List Int), a.isNone = false → xs.length = nn → (∀ i, xs.getD i 0 = 0) → K (T.set d (.slice a xs.length cc)) (ints elem kd a cc xs :: L)) :
    OpX P g F { dst := some d, op := .makeSlice t x y, type := ty, pos, after, guard := gd } T L K :=
  opx_make_ints nn cc (List.replicate nn 0) hu hE hx hy hn hc hle hb rfl fun a ha => h a _ ha List.length_replicate fun i => by
    simp only [List.getD, List.getElem?_replicate]
    split <;> rfl

/-- A number is stored in a slice of one's own. -/
theorem opx_store_own_i {P : Program} {g : World} {F : List HP} {T : List Value} {L : List HP} {K : List Value → List HP → Prop} {t ty : TypeId} {x y : Operand} {pos : String} {after : Array Edge} {gd : Option (Nat × Bool)} {E n c off : Nat} {a : Option Addr} {kd : IntKind} {xs : List Int} {e : Int} (i : Nat)
    (hE : okTy P t 1 = true) (hL : nth L i = some (ownS E 1 (.slice a n c) n (xs.map (Value.int kd)))) (hx : ev T x = .pointer (some ⟨blk a, off, none⟩)) (hy : ev T y = .int kd e) (ho : off < xs.length)
    (h : K T (L.set i (ownS E 1 (.slice a n c) n ((xs.set off e).map (Value.int kd))))) : OpX P g F { dst := none, op := .store t x y, type := ty, pos, after, guard := gd } T L K := by
  refine opx_store_own i (.int kd e) hE hL hx hy rfl (by simpa using ho) ?_
  rw [← List.map_set]; exact h
end Go.Xg

/- Symbolic running: slices of records of one's own. Over any program. -/
namespace Go.Xg
open Go Go.Sl
set_option linter.unusedVariables false

/-- A slice of records of one's own. -/
abbrev recsO {α : Type} (E sz : Nat) (cells : α → List Value) (a : Option Addr) (c : Nat) (l : List α) : HP := ownS E sz (.slice a l.length c) l.length (recs cells l)

def okTyB (P : Program) (t : TypeId) (sz B : Nat) : Bool := okTy P t sz && (match P.info? t with
  | some i => decide (i.bytes ≤ B)
  | none => false)
section
variable {P : Program} {f : FuncId} {g : World} {F : List HP} {R : Ending → World → Prop} {k : List Item} {T : List Value} {L : List HP} {K : List Value → List HP → Prop}

end
end Go.Xg

/- Symbolic running: append and clear inside a slice of one's own (what slices.Delete does), slices of three. Over any program. -/
namespace Go.Xg
open Go Go.Sl
set_option linter.unusedVariables false
section
variable {P : Program} {f : FuncId} {g : World} {F : List HP} {R : Ending → World → Prop} {k : List Item} {T : List Value} {L : List HP} {K : List Value → List HP → Prop}

def zOne (P : Program) (t : TypeId) : Bool := match P.info? t with
  | some i => match i.zero with
    | some z => z.cells.toList.all (·.oneCell')
    | none => false
  | none => false

/-- A slice of one's own stands at the beginning of its block. -/
theorem at_off {E sz n c : Nat} {a : Option Addr} {vs : List Value} (i : Nat) (hL : nth L i = some (ownS E sz (.slice a n c) n vs)) (hn : 0 < n) (h : offA a = 0 → At P f g F R k T L) : At P f g F R k T L :=
  ⟨fun w hS => (h (by rw [(own_some hS i hL).2.2.2.1 hn]; rfl)).run w hS⟩
end
end Go.Xg
