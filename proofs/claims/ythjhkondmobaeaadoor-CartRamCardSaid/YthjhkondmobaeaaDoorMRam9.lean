import Derived.Test.YthjhkondmobaeaaDoorMRam8
import Derived.Laws.IdiomStrings
import Derived.Laws.Concat
/- Symbolic running: strings. Over any program. -/
namespace Go.Xg
open Go Go.Sl
set_option linter.unusedVariables false

/-- A string, by its bytes' numbers. -/
def St (xs : List Int) : ByteArray := ⟨(xs.map fun n => UInt8.ofNat n.toNat).toArray⟩
def isB (xs : List Int) : Prop := ∀ x ∈ xs, 0 ≤ x ∧ x ≤ 255
def sEq (xs ys : List Int) : Bool := (St xs).toList == (St ys).toList

theorem isB_drop {xs : List Int} (n : Nat) (hx : isB xs) : isB (xs.drop n) := fun x h => hx x (List.mem_of_mem_drop h)
theorem isB_take {xs : List Int} (n : Nat) (hx : isB xs) : isB (xs.take n) := fun x h => hx x (List.mem_of_mem_take h)
theorem isB_get {xs : List Int} (hx : isB xs) {i : Nat} (hi : i < xs.length) : 0 ≤ xs.getD i 0 ∧ xs.getD i 0 ≤ 255 := by
  have : xs.getD i 0 ∈ xs := by simp [List.getD, hi]
  exact hx _ this

def strTy (P : Program) (t : TypeId) : Bool := match P.underlying t with
  | some .string => true
  | _ => false
theorem strTy_u {P : Program} {t : TypeId} (h : strTy P t = true) : P.underlying t = some .string := by
  unfold strTy at h; split at h
  · assumption
  · cases h
def u8Ty (P : Program) (t : TypeId) : Bool := match P.underlying t with
  | some (.int .u8) => true
  | _ => false
theorem u8Ty_u {P : Program} {t : TypeId} (h : u8Ty P t = true) : P.underlying t = some (.int .u8) := by
  unfold u8Ty at h; split at h
  · assumption
  · cases h

section
variable {P : Program} {T : List Value} {o : Oper}

theorem foldl_St : ∀ (xs : List Int) (r : ByteArray), xs.foldl (fun r n => r.push (UInt8.ofNat n.toNat)) r = ⟨r.data ++ (St xs).data⟩
  | [], r => by simp [St]
  | x :: xs, r => by
    rw [List.foldl_cons, foldl_St xs]
    simp [ByteArray.push, St]

/-- string(b), of what reads so. -/
theorem run_str_rd {d : Option Tmp} {src dst ty e : TypeId} {x : Operand} {pos : String} {after : Array Edge} {gd : Option (Nat × Bool)} {a : Option Addr} {n c : Nat} {xs : List Int}
    (hs : slTy P src e = true) (he : u8Ty P e = true) (hd : strTy P dst = true) (hx : ev T x = .slice a n c) (w : World) (h : RdIs 1 (.slice a n c) n (xs.map (Value.int .u8)) w) :
    (execOp (act T).eval { dst := d, op := .convert src dst x, type := ty, pos, after, guard := gd }).run P w = .ok (.value (.string (St xs))) w := by
  have hn : xs.length = n := by obtain ⟨_, _, _, h1, _⟩ := h; simpa using h1
  have key : (convert src dst (.slice a n c)).run P w = .ok (.string (St xs)) w := by
    rw [run_convert_bytes_string w src dst e a n c (slTy_u hs) (u8Ty_u he) (strTy_u hd)]
    cases a with
    | none =>
      have : xs = [] := by
        cases xs with
        | nil => rfl
        | cons z zs =>
          obtain ⟨_, _, e1, _, h2⟩ := h
          cases e1
          obtain ⟨ad, h3, _⟩ := h2 0 (.int .u8 z) rfl
          cases h3
      subst this
      rfl
    | some b =>
      have hl := run_loadCells_list (P := P) w b (xs.map (Value.int .u8)) (fun j v hj => by
        obtain ⟨_, _, e1, _, h2⟩ := h
        cases e1
        obtain ⟨ad, h3, h4⟩ := h2 j v hj
        cases h3
        exact h4)
      rw [List.length_map, hn] at hl
      rw [run_bytesToString w b n c xs hl, foldl_St]
      congr 1
      congr 1
      apply ByteArray.ext
      show ByteArray.empty.data ++ (St xs).data = (St xs).data
      simp
  simp [execOp, act_eval, hx, key]

theorem made_list (kd : IntKind) (c : Nat) : (madeCells (Value.int kd 0).cells (c * 1)).toList = List.replicate c (Value.int kd 0) := by
  rw [Nat.mul_one]
  apply List.ext_getElem
  · simp [madeCells]
  · intro i h1 h2
    simp [madeCells, Value.cells, Nat.mod_one]

variable {g : World} {F L : List HP} {K : List Value → List HP → Prop}
theorem opx_make_ints {d : Nat} {t ty elem : TypeId} {x y : Operand} {pos : String} {after : Array Edge} {gd : Option (Nat × Bool)} {kd k1 k2 : IntKind} {by_ : Nat} {n c : Int} (nn cc : Nat) (xs : List Int)
    (hu : slTy P t elem = true) (hE : intTy P elem kd by_ = true) (hx : ev T x = .int k1 n) (hy : ev T y = .int k2 c) (hn : n = nn) (hc : c = cc) (hle : nn ≤ cc) (hb : by_ * cc ≤ 140737488351232 ∧ cc ≤ 140737488351232) (hxs : xs = List.replicate nn 0)
    (h : ∀ a, a.isNone = false → K (T.set d (.slice a xs.length cc)) (ints elem kd a cc xs :: L)) :
    OpX P g F { dst := some d, op := .makeSlice t x y, type := ty, pos, after, guard := gd } T L K := by
  constructor
  intro w hS
  subst hn; subst hc
  obtain ⟨b, w', hr, h'⟩ := hS.make t elem (.int kd 0) 1 by_ (slTy_u hu) (intTy_el hE) k1 k2 (nn : Int) (cc : Int) (by omega) (by omega) (by omega) (by unfold maxLen; omega)
  rw [Int.toNat_natCast, Int.toNat_natCast] at hr
  rw [Int.toNat_natCast, made_list] at h'
  have hl : xs.length = nn := by rw [hxs]; simp
  have e : List.replicate cc (Value.int kd 0) = xs.map (Value.int kd) ++ List.replicate (cc - nn) (Value.int kd 0) := by
    rw [hxs, List.map_replicate, List.replicate_append_replicate]; congr 1; omega
  rw [e] at h'
  have h6 := SL.own_some (n := xs.length) (cap := cc) (sz := 1) h' (by simp) (by omega) (by unfold maxLen; omega) (by simp [hl])
  have h7 := h (some ⟨b, 0, none⟩) rfl
  rw [← hl] at hr
  exact op_value (exec_make _ (by rw [act_eval, act_eval, hx, hy, ← hl]; exact hr)) ⟨_, ints elem kd (some ⟨b, 0, none⟩) cc xs :: L, by rw [act_put]; rfl, h6, h7⟩
end
end Go.Xg

/- Symbolic running: append of made zeros; copy into a slice of one's own. Over any program. -/
namespace Go.Xg
open Go Go.Sl
set_option linter.unusedVariables false
set_option linter.unusedSimpArgs false

def isInt (P : Program) (t : TypeId) : Bool := match P.underlying t with
  | some (.int _) => true
  | _ => false
section
variable {P : Program}

end

section
variable {P : Program} {g : World} {F L : List HP} {K : List Value → List HP → Prop} {T : List Value}

end

end Go.Xg
