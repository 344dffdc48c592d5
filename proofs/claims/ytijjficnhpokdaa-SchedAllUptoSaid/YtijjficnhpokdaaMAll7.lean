import Derived.Test.YtijjficnhpokdaaMAll6
import Derived.Laws.IdiomStrings
import Derived.Laws.Concat
/- Symbolic running: strings. Over any program. -/
namespace Go.Xg
open Go Go.Sl
set_option linter.unusedVariables false

/-- A string, by its bytes' numbers. -/
def St (xs : List Int) : ByteArray := ⟨(xs.map fun n => UInt8.ofNat n.toNat).toArray⟩
def isB (xs : List Int) : Prop := ∀ x ∈ xs, 0 ≤ x ∧ x ≤ 255
def sEq (xs ys : List Int) : Bool := (St xs).toList == (St ys).toList

def strTy (P : Program) (t : TypeId) : Bool := match P.underlying t with
  | some .string => true
  | _ => false
def u8Ty (P : Program) (t : TypeId) : Bool := match P.underlying t with
  | some (.int .u8) => true
  | _ => false
section
variable {P : Program} {T : List Value} {o : Oper}

theorem made_list (kd : IntKind) (c : Nat) : (madeCells (Value.int kd 0).cells (c * 1)).toList = List.replicate c (Value.int kd 0) := by
  rw [Nat.mul_one]
  apply List.ext_getElem
  · simp [madeCells]
  · intro i h1 h2
    simp [madeCells, Value.cells, Nat.mod_one]

variable {g : World} {F L : List HP} {K : List Value → List HP → Prop}
theorem opx_make_ints {d : Nat} {t ty elem : TypeId} {x y : Operand} {pos : String} {after : Array Edge} {gd : Option (Nat × Bool)} {kd k1 k2 : IntKind} {by_ : Nat} {n c : Int} (nn cc : Nat) (xs : List Int)
    (hu : slTy P t elem = true) (hE : intTy P elem kd by_ = true) (hx : ev T x = .int k1 n) (hy : ev T y = .int k2 c) (hn : n = nn) (hc : c = cc) (hle : nn ≤ cc) (hb : by_ * cc ≤ 140737488351232 ∧ cc ≤ 140737488351232) (hxs : xs = List.replicate nn 0)
    (h : ∀ a, a.isNone = false → K (T.set d (.slice a xs.length cc)) (ints elem kd a cc xs :: L)) :
    OpX P g F { dst := some d, op := .makeSlice t x y, type := ty, pos, after, guard := gd } T L K := by
  constructor
  intro w hS
  subst hn; subst hc
  obtain ⟨b, w', hr, h'⟩ := hS.make t elem (.int kd 0) 1 by_ (slTy_u hu) (intTy_el hE) k1 k2 (nn : Int) (cc : Int) (by omega) (by omega) (by omega) (by unfold maxLen; omega)
  rw [Int.toNat_natCast, Int.toNat_natCast] at hr
  rw [Int.toNat_natCast, made_list] at h'
  have hl : xs.length = nn := by rw [hxs]; simp
  have e : List.replicate cc (Value.int kd 0) = xs.map (Value.int kd) ++ List.replicate (cc - nn) (Value.int kd 0) := by
    rw [hxs, List.map_replicate, List.replicate_append_replicate]; congr 1; omega
  rw [e] at h'
  have h6 := SL.own_some (n := xs.length) (cap := cc) (sz := 1) h' (by simp) (by omega) (by unfold maxLen; omega) (by simp [hl])
  have h7 := h (some ⟨b, 0, none⟩) rfl
  rw [← hl] at hr
  exact op_value (exec_make _ (by rw [act_eval, act_eval, hx, hy, ← hl]; exact hr)) ⟨_, ints elem kd (some ⟨b, 0, none⟩) cc xs :: L, by rw [act_put]; rfl, h6, h7⟩
end
end Go.Xg

/- Symbolic running: append of made zeros; copy into a slice of one's own. Over any program. -/
namespace Go.Xg
open Go Go.Sl
set_option linter.unusedVariables false
set_option linter.unusedSimpArgs false

def isInt (P : Program) (t : TypeId) : Bool := match P.underlying t with
  | some (.int _) => true
  | _ => false
section
variable {P : Program}

end

section
variable {P : Program} {g : World} {F L : List HP} {K : List Value → List HP → Prop} {T : List Value}

end

end Go.Xg
