/- Symbolic running: strings. Over any program. -/
import Derived.Test.YtmplimmcjdkhlaaG8
import Derived.Laws.IdiomStrings
import Derived.Laws.Concat
namespace Go.Xg
open Go Go.Sl
set_option linter.unusedVariables false

/-- A string, by its bytes' numbers. -/
def St (xs : List Int) : ByteArray := ⟨(xs.map fun n => UInt8.ofNat n.toNat).toArray⟩
def isB (xs : List Int) : Prop := ∀ x ∈ xs, 0 ≤ x ∧ x ≤ 255
def sEq (xs ys : List Int) : Bool := (St xs).toList == (St ys).toList

theorem St_size (xs : List Int) : (St xs).size = xs.length := by simp [St, ByteArray.size]
theorem St_append (xs ys : List Int) : St xs ++ St ys = St (xs ++ ys) := by
  unfold St
  apply ByteArray.ext
  simp [ByteArray.data_append]
theorem St_extract (xs : List Int) (l h : Nat) : (St xs).extract l h = St ((xs.take h).drop l) := by
  unfold St
  apply ByteArray.ext
  simp [ByteArray.extract_mk, List.map_drop, List.map_take, List.drop_take]
theorem u8_inj {x y : Int} (hx : 0 ≤ x ∧ x ≤ 255) (hy : 0 ≤ y ∧ y ≤ 255) (h : UInt8.ofNat x.toNat = UInt8.ofNat y.toNat) : x = y := by
  have h1 := congrArg UInt8.toNat h
  rw [UInt8.toNat_ofNat', UInt8.toNat_ofNat', Nat.mod_eq_of_lt (by omega), Nat.mod_eq_of_lt (by omega)] at h1
  omega
theorem St_inj {xs ys : List Int} (hx : isB xs) (hy : isB ys) (h : St xs = St ys) : xs = ys := by
  have h1 : xs.map (fun n => UInt8.ofNat n.toNat) = ys.map fun n => UInt8.ofNat n.toNat := by
    have := congrArg (fun b : ByteArray => b.data.toList) h
    simpa [St] using this
  induction xs generalizing ys with
  | nil => cases ys with
    | nil => rfl
    | cons y ys => simp at h1
  | cons x xs ih => cases ys with
    | nil => simp at h1
    | cons y ys =>
      simp only [List.map_cons, List.cons.injEq] at h1
      have e1 := u8_inj (hx x (.head _)) (hy y (.head _)) h1.1
      have e2 := ih (fun z hz => hx z (.tail _ hz)) (fun z hz => hy z (.tail _ hz)) (by unfold St; rw [h1.2]) h1.2
      rw [e1, e2]
theorem toList_inj {a b : ByteArray} (h : a.toList = b.toList) : a = b := by
  have e : ∀ c : ByteArray, c.toList = c.data.toList := fun c => by
    obtain ⟨⟨l⟩⟩ := c
    exact ByteArray.toList_mk l
  rw [e, e] at h
  apply ByteArray.ext
  exact Array.ext' h
theorem sEq_self (xs : List Int) : sEq xs xs = true := by simp [sEq]
theorem sEq_of {xs ys : List Int} (h : xs = ys) : sEq xs ys = true := by rw [h]; exact sEq_self ys
theorem sEq_eq {xs ys : List Int} (hx : isB xs) (hy : isB ys) : sEq xs ys = decide (xs = ys) := by
  by_cases h : xs = ys
  · rw [sEq_of h]; simp [h]
  · have : ¬ (St xs).toList = (St ys).toList := fun e => h (St_inj hx hy (toList_inj e))
    simp [sEq, this, h]
theorem St_of (s : ByteArray) : ∃ xs, isB xs ∧ xs.length = s.size ∧ s = St xs := by
  obtain ⟨⟨l⟩⟩ := s
  refine ⟨l.map fun b => (b.toNat : Int), ?_, by simp [ByteArray.size], ?_⟩
  · intro x hx
    obtain ⟨b, _, rfl⟩ := List.mem_map.1 hx
    have := b.toNat_lt
    omega
  · unfold St
    apply ByteArray.ext
    have : l.map ((fun n : Int => UInt8.ofNat n.toNat) ∘ fun b : UInt8 => (b.toNat : Int)) = l := by
      conv => rhs; rw [← List.map_id l]
      exact List.map_congr_left fun b _ => by simp
    simp [this]
theorem isB_nil : isB [] := fun x h => by cases h
theorem isB_append {xs ys : List Int} (hx : isB xs) (hy : isB ys) : isB (xs ++ ys) := fun x h => by
  rcases List.mem_append.1 h with h | h
  · exact hx x h
  · exact hy x h
theorem isB_cons {x : Int} {xs : List Int} (h : 0 ≤ x ∧ x ≤ 255) (hx : isB xs) : isB (x :: xs) := fun y hy => by
  cases hy with
  | head => exact h
  | tail _ hy => exact hx y hy
theorem isB_drop {xs : List Int} (n : Nat) (hx : isB xs) : isB (xs.drop n) := fun x h => hx x (List.mem_of_mem_drop h)
theorem isB_take {xs : List Int} (n : Nat) (hx : isB xs) : isB (xs.take n) := fun x h => hx x (List.mem_of_mem_take h)
theorem isB_get {xs : List Int} (hx : isB xs) {i : Nat} (hi : i < xs.length) : 0 ≤ xs.getD i 0 ∧ xs.getD i 0 ≤ 255 := by
  have : xs.getD i 0 ∈ xs := by simp [List.getD, hi]
  exact hx _ this

def strTy (P : Program) (t : TypeId) : Bool := match P.underlying t with
  | some .string => true
  | _ => false
theorem strTy_u {P : Program} {t : TypeId} (h : strTy P t = true) : P.underlying t = some .string := by
  unfold strTy at h; split at h
  · assumption
  · cases h
def u8Ty (P : Program) (t : TypeId) : Bool := match P.underlying t with
  | some (.int .u8) => true
  | _ => false
theorem u8Ty_u {P : Program} {t : TypeId} (h : u8Ty P t = true) : P.underlying t = some (.int .u8) := by
  unfold u8Ty at h; split at h
  · assumption
  · cases h

section
variable {P : Program} {T : List Value} {o : Oper}

theorem foldl_St : ∀ (xs : List Int) (r : ByteArray), xs.foldl (fun r n => r.push (UInt8.ofNat n.toNat)) r = ⟨r.data ++ (St xs).data⟩
  | [], r => by simp [St]
  | x :: xs, r => by
    rw [List.foldl_cons, foldl_St xs]
    simp [ByteArray.push, St]

/-- string(b), of what reads so. -/
theorem run_str_rd {d : Option Tmp} {src dst ty e : TypeId} {x : Operand} {pos : String} {after : Array Edge} {gd : Option (Nat × Bool)} {a : Option Addr} {n c : Nat} {xs : List Int}
    (hs : slTy P src e = true) (he : u8Ty P e = true) (hd : strTy P dst = true) (hx : ev T x = .slice a n c) (w : World) (h : RdIs 1 (.slice a n c) n (xs.map (Value.int .u8)) w) :
    (execOp (act T).eval { dst := d, op := .convert src dst x, type := ty, pos, after, guard := gd }).run P w = .ok (.value (.string (St xs))) w := by
  have hn : xs.length = n := by obtain ⟨_, _, _, h1, _⟩ := h; simpa using h1
  have key : (convert src dst (.slice a n c)).run P w = .ok (.string (St xs)) w := by
    rw [run_convert_bytes_string w src dst e a n c (slTy_u hs) (u8Ty_u he) (strTy_u hd)]
    cases a with
    | none =>
      have : xs = [] := by
        cases xs with
        | nil => rfl
        | cons z zs =>
          obtain ⟨_, _, e1, _, h2⟩ := h
          cases e1
          obtain ⟨ad, h3, _⟩ := h2 0 (.int .u8 z) rfl
          cases h3
      subst this
      rfl
    | some b =>
      have hl := run_loadCells_list (P := P) w b (xs.map (Value.int .u8)) (fun j v hj => by
        obtain ⟨_, _, e1, _, h2⟩ := h
        cases e1
        obtain ⟨ad, h3, h4⟩ := h2 j v hj
        cases h3
        exact h4)
      rw [List.length_map, hn] at hl
      rw [run_bytesToString w b n c xs hl, foldl_St]
      congr 1
      congr 1
      apply ByteArray.ext
      show ByteArray.empty.data ++ (St xs).data = (St xs).data
      simp
  simp [execOp, act_eval, hx, key]

theorem run_str_eq {d : Option Tmp} {t t2 ty : TypeId} {x y : Operand} {pos : String} {after : Array Edge} {gd : Option (Nat × Bool)} {xs ys : List Int}
    (ht : strTy P t = true) (hx : ev T x = .string (St xs)) (hy : ev T y = .string (St ys)) (w : World) :
    (execOp (act T).eval { dst := d, op := .binOp .eql t x y t2, type := ty, pos, after, guard := gd }).run P w = .ok (.value (.bool (sEq xs ys))) w := by
  simp only [execOp, eqGuard, act_eval, hx, hy, binOp]
  simp [Op.stringOp, sEq]

theorem run_str_same {d : Option Tmp} {t t2 ty : TypeId} {x y : Operand} {pos : String} {after : Array Edge} {gd : Option (Nat × Bool)} {xs ys : List Int}
    (ht : strTy P t = true) (hx : ev T x = .string (St xs)) (hy : ev T y = .string (St ys)) (h : xs = ys) (w : World) :
    (execOp (act T).eval { dst := d, op := .binOp .eql t x y t2, type := ty, pos, after, guard := gd }).run P w = .ok (.value (.bool true)) w := by
  have := run_str_eq (d := d) (t2 := t2) (ty := ty) (pos := pos) (after := after) (gd := gd) ht hx hy w
  rwa [sEq_of h] at this

theorem run_str_ne {d : Option Tmp} {t t2 ty : TypeId} {x y : Operand} {pos : String} {after : Array Edge} {gd : Option (Nat × Bool)} {xs ys : List Int}
    (ht : strTy P t = true) (hx : ev T x = .string (St xs)) (hy : ev T y = .string (St ys)) (w : World) :
    (execOp (act T).eval { dst := d, op := .binOp .neq t x y t2, type := ty, pos, after, guard := gd }).run P w = .ok (.value (.bool (!sEq xs ys))) w := by
  simp only [execOp, eqGuard, act_eval, hx, hy, binOp]
  simp [Op.stringOp, sEq]

theorem run_str_add {d : Option Tmp} {t t2 ty : TypeId} {x y : Operand} {pos : String} {after : Array Edge} {gd : Option (Nat × Bool)} {xs ys : List Int}
    (hx : ev T x = .string (St xs)) (hy : ev T y = .string (St ys)) (hl : xs.length + ys.length ≤ 9223372036854775807) (w : World) :
    (execOp (act T).eval { dst := d, op := .binOp .add t x y t2, type := ty, pos, after, guard := gd }).run P w = .ok (.value (.string (St (xs ++ ys)))) w := by
  have h := run_string_add_sum (P := P) w (St xs) (St ys) (by rw [St_size, St_size]; exact hl)
  simp only [execOp, eqGuard, act_eval, hx, hy, binOp]
  simp [h, St_append]

theorem run_str_len {d : Option Tmp} {t ty : TypeId} {x : Operand} {pos : String} {after : Array Edge} {gd : Option (Nat × Bool)} {xs : List Int}
    (ht : strTy P t = true) (hx : ev T x = .string (St xs)) (w : World) :
    (execOp (act T).eval { dst := d, op := .call { callee := .builtin .len, args := #[x], argTypes := #[t] }, type := ty, pos, after, guard := gd }).run P w = .ok (.value (.int .i64 (xs.length : Nat))) w := by
  rw [BigFrame.execOp_builtin]
  simp [act_eval, hx, builtin, Builtin.len_, run_underlying (strTy_u ht), goInt, St_size]

theorem run_str_ix {d : Option Tmp} {t ty : TypeId} {x y : Operand} {pos : String} {after : Array Edge} {gd : Option (Nat × Bool)} {xs : List Int} {kd : IntKind} {e : Int} (j : Nat)
    (ht : strTy P t = true) (hx : ev T x = .string (St xs)) (hy : ev T y = .int kd e) (he : e = (j : Int)) (hj : j < xs.length) (hB : isB xs) (w : World) :
    (execOp (act T).eval { dst := d, op := .index t x y, type := ty, pos, after, guard := gd }).run P w = .ok (.value (.int .u8 (xs.getD j 0))) w := by
  subst he
  have hb := isB_get hB hj
  have hg : (St xs)[j]? = some (UInt8.ofNat (xs.getD j 0).toNat) := by
    have hlt : j < (St xs).size := by rw [St_size]; exact hj
    rw [getElem?_pos (St xs) j hlt]
    congr 1
    show (St xs).data[j] = _
    simp [St, List.getD, hj]
  have hv : ((UInt8.ofNat (xs.getD j 0).toNat).toNat : Int) = xs.getD j 0 := by
    rw [UInt8.toNat_ofNat', Nat.mod_eq_of_lt (by omega)]; omega
  simp only [execOp, Instr.index, act_eval, hx, hy, asIntOf]
  simp [run_underlying (strTy_u ht), hg]
  simpa using hv

theorem run_str_sl {d : Option Tmp} {t ty : TypeId} {x lo hi : Operand} {pos : String} {after : Array Edge} {gd : Option (Nat × Bool)} {xs : List Int} {k1 k2 : IntKind} {e1 e2 : Int} (l h : Nat)
    (ht : strTy P t = true) (hx : ev T x = .string (St xs)) (h1 : ev T lo = .int k1 e1) (h2 : ev T hi = .int k2 e2) (he1 : e1 = l) (he2 : e2 = h) (hlh : l ≤ h) (hhc : h ≤ xs.length) (w : World) :
    (execOp (act T).eval { dst := d, op := .slice t x (some lo) (some hi) none, type := ty, pos, after, guard := gd }).run P w = .ok (.value (.string (St ((xs.take h).drop l)))) w := by
  subst he1; subst he2
  have hs := St_size xs
  simp [execOp, Instr.sliceAt, Instr.slice, Instr.sliceBounds, Instr.sliceBound, act_eval, hx, h1, h2, asIntOf, run_underlying (strTy_u ht), hs, hhc, hlh, St_extract]

theorem run_str_sl_lo {d : Option Tmp} {t ty : TypeId} {x lo : Operand} {pos : String} {after : Array Edge} {gd : Option (Nat × Bool)} {xs : List Int} {k1 : IntKind} {e1 : Int} (l : Nat)
    (ht : strTy P t = true) (hx : ev T x = .string (St xs)) (h1 : ev T lo = .int k1 e1) (he1 : e1 = l) (hlh : l ≤ xs.length) (w : World) :
    (execOp (act T).eval { dst := d, op := .slice t x (some lo) none none, type := ty, pos, after, guard := gd }).run P w = .ok (.value (.string (St (xs.drop l)))) w := by
  subst he1
  have hs := St_size xs
  have e : (xs.take xs.length).drop l = xs.drop l := by rw [List.take_of_length_le (Nat.le_refl _)]
  simp [execOp, Instr.sliceAt, Instr.slice, Instr.sliceBounds, Instr.sliceBound, act_eval, hx, h1, asIntOf, run_underlying (strTy_u ht), hs, hlh, St_extract]

theorem run_str_sl_hi {d : Option Tmp} {t ty : TypeId} {x hi : Operand} {pos : String} {after : Array Edge} {gd : Option (Nat × Bool)} {xs : List Int} {k2 : IntKind} {e2 : Int} (h : Nat)
    (ht : strTy P t = true) (hx : ev T x = .string (St xs)) (h2 : ev T hi = .int k2 e2) (he2 : e2 = h) (hhc : h ≤ xs.length) (w : World) :
    (execOp (act T).eval { dst := d, op := .slice t x none (some hi) none, type := ty, pos, after, guard := gd }).run P w = .ok (.value (.string (St (xs.take h)))) w := by
  subst he2
  have hs := St_size xs
  simp [execOp, Instr.sliceAt, Instr.slice, Instr.sliceBounds, Instr.sliceBound, act_eval, hx, h2, asIntOf, run_underlying (strTy_u ht), hs, hhc, St_extract]

theorem made_list (kd : IntKind) (c : Nat) : (madeCells (Value.int kd 0).cells (c * 1)).toList = List.replicate c (Value.int kd 0) := by
  rw [Nat.mul_one]
  apply List.ext_getElem
  · simp [madeCells]
  · intro i h1 h2
    simp [madeCells, Value.cells, Nat.mod_one]

variable {g : World} {F L : List HP} {K : List Value → List HP → Prop}
theorem opx_make_ints {d : Nat} {t ty elem : TypeId} {x y : Operand} {pos : String} {after : Array Edge} {gd : Option (Nat × Bool)} {kd k1 k2 : IntKind} {by_ : Nat} {n c : Int} (nn cc : Nat) (xs : List Int)
    (hu : slTy P t elem = true) (hE : intTy P elem kd by_ = true) (hx : ev T x = .int k1 n) (hy : ev T y = .int k2 c) (hn : n = nn) (hc : c = cc) (hle : nn ≤ cc) (hb : by_ * cc ≤ 140737488351232 ∧ cc ≤ 140737488351232) (hxs : xs = List.replicate nn 0)
    (h : ∀ a, a.isNone = false → K (T.set d (.slice a xs.length cc)) (ints elem kd a cc xs :: L)) :
    OpX P g F { dst := some d, op := .makeSlice t x y, type := ty, pos, after, guard := gd } T L K := by
  constructor
  intro w hS
  subst hn; subst hc
  obtain ⟨b, w', hr, h'⟩ := hS.make t elem (.int kd 0) 1 by_ (slTy_u hu) (intTy_el hE) k1 k2 (nn : Int) (cc : Int) (by omega) (by omega) (by omega) (by unfold maxLen; omega)
  rw [Int.toNat_natCast, Int.toNat_natCast] at hr
  rw [Int.toNat_natCast, made_list] at h'
  have hl : xs.length = nn := by rw [hxs]; simp
  have e : List.replicate cc (Value.int kd 0) = xs.map (Value.int kd) ++ List.replicate (cc - nn) (Value.int kd 0) := by
    rw [hxs, List.map_replicate, List.replicate_append_replicate]; congr 1; omega
  rw [e] at h'
  have h6 := SL.own_some (n := xs.length) (cap := cc) (sz := 1) h' (by simp) (by omega) (by unfold maxLen; omega) (by simp [hl])
  have h7 := h (some ⟨b, 0, none⟩) rfl
  rw [← hl] at hr
  exact op_value (exec_make _ (by rw [act_eval, act_eval, hx, hy, ← hl]; exact hr)) ⟨_, ints elem kd (some ⟨b, 0, none⟩) cc xs :: L, by rw [act_put]; rfl, h6, h7⟩
end
end Go.Xg
