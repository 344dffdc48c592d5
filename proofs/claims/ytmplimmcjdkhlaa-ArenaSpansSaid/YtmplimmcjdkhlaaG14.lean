/- Symbolic running: rows that are spelled by a function of a state (arrays within a struct): what is read, what is written. Over any program. -/
import Derived.Test.YtmplimmcjdkhlaaG13
namespace Go.Xg
open Go Go.Sl
set_option linter.unusedVariables false

def Gets (cs : List Value) (off : Nat) (v : Value) : Prop := cs[off]? = some v
def Has (cs : List Value) (off : Nat) (vs : List Value) : Prop := ∀ j v, vs[j]? = some v → cs[off + j]? = some v
def Sets (cs : List Value) (off : Nat) (v : Value) (cs' : List Value) : Prop := off < cs.length ∧ cs.set off v = cs'
def Puts (cs : List Value) (off : Nat) (vs : List Value) (cs' : List Value) : Prop := off + vs.length ≤ cs.length ∧ cs.take off ++ vs ++ cs.drop (off + vs.length) = cs'

/-- A stretch of integers. -/
def seg (k : IntKind) (n : Nat) (f : Nat → Int) : List Value := (List.range n).map fun i => Value.int k (f i)
def upd (f : Nat → Int) (i : Nat) (v : Int) : Nat → Int := fun j => if j = i then v else f j
theorem upd_same (f : Nat → Int) (i : Nat) (v : Int) : upd f i v i = v := by simp [upd]
theorem upd_ne {f : Nat → Int} {i j : Nat} {v : Int} (h : j ≠ i) : upd f i v j = f j := by simp [upd, h]
theorem seg_len (k : IntKind) (n : Nat) (f : Nat → Int) : (seg k n f).length = n := by simp [seg]
theorem seg_get {k : IntKind} {n : Nat} {f : Nat → Int} {i : Nat} (h : i < n) : (seg k n f)[i]? = some (.int k (f i)) := by simp [seg, h]
theorem seg_set {k : IntKind} {n : Nat} {f : Nat → Int} {i : Nat} {v : Int} (h : i < n) : (seg k n f).set i (.int k v) = seg k n (upd f i v) := by
  apply List.ext_getElem
  · simp [seg]
  · intro j h1 h2
    simp only [seg, List.getElem_set, List.getElem_map, List.getElem_range, upd]
    by_cases hj : i = j
    · subst hj; simp
    · simp [hj, Ne.symm hj]
theorem seg_congr {k : IntKind} {n : Nat} {f g : Nat → Int} (h : ∀ i, i < n → f i = g i) : seg k n f = seg k n g := by
  unfold seg
  exact List.map_congr_left fun i hi => by rw [h i (List.mem_range.1 hi)]
theorem seg_map {k : IntKind} {n : Nat} {f : Nat → Int} : seg k n f = ((List.range n).map f).map (Value.int k) := by simp [seg]
theorem seg_zero (k : IntKind) (n : Nat) : seg k n (fun _ => 0) = List.replicate n (Value.int k 0) := by
  apply List.ext_getElem
  · simp [seg]
  · intro i h1 h2; simp [seg]

theorem gets_head {a b : List Value} {i : Nat} {v : Value} (h : a[i]? = some v) : Gets (a ++ b) i v := by
  unfold Gets
  rw [List.getElem?_append_left (List.getElem?_eq_some_iff.1 h).1]; exact h
theorem gets_tail {a b : List Value} {n i : Nat} {v : Value} (hn : a.length = n) (h : Gets b i v) : Gets (a ++ b) (n + i) v := by
  unfold Gets at h ⊢
  rw [List.getElem?_append_right (by omega), hn, Nat.add_sub_cancel_left]; exact h
theorem sets_head {a a' b : List Value} {i : Nat} {v : Value} (hl : i < a.length) (h : a.set i v = a') : Sets (a ++ b) i v (a' ++ b) :=
  ⟨by rw [List.length_append]; omega, by rw [List.set_append_left _ _ hl, h]⟩
theorem sets_tail {a b b' : List Value} {n i : Nat} {v : Value} (hn : a.length = n) (h : Sets b i v b') : Sets (a ++ b) (n + i) v (a ++ b') :=
  ⟨by rw [List.length_append]; have := h.1; omega, by rw [List.set_append_right _ _ (by omega), hn, Nat.add_sub_cancel_left, h.2]⟩
theorem has_head {a b vs : List Value} (h : a = vs) : Has (a ++ b) 0 vs := fun j v hj => by
  subst h
  rw [Nat.zero_add, List.getElem?_append_left (List.getElem?_eq_some_iff.1 hj).1]; exact hj
theorem has_tail {a b vs : List Value} {n i : Nat} (hn : a.length = n) (h : Has b i vs) : Has (a ++ b) (n + i) vs := fun j v hj => by
  have := h j v hj
  rw [List.getElem?_append_right (by omega), hn, show n + i + j - n = i + j from by omega]; exact this
theorem has_all {a vs : List Value} (h : a = vs) : Has a 0 vs := fun j v hj => by subst h; rw [Nat.zero_add]; exact hj
theorem puts_head {a vs b : List Value} (hl : vs.length = a.length) : Puts (a ++ b) 0 vs (vs ++ b) :=
  ⟨by rw [List.length_append]; omega, by rw [List.take_zero, List.nil_append, Nat.zero_add, hl, List.drop_left']; rfl⟩
theorem puts_all {a vs : List Value} (hl : vs.length = a.length) : Puts a 0 vs vs :=
  ⟨by omega, by rw [List.take_zero, List.nil_append, Nat.zero_add, hl, List.drop_length, List.append_nil]⟩
theorem puts_tail {a b b' vs : List Value} {n i : Nat} (hn : a.length = n) (h : Puts b i vs b') : Puts (a ++ b) (n + i) vs (a ++ b') :=
  ⟨by rw [List.length_append]; have := h.1; omega, by
    rw [List.take_append, List.drop_append, hn, Nat.add_sub_cancel_left, List.take_of_length_le (by omega), List.drop_eq_nil_of_le (by omega), show n + i + vs.length - n = i + vs.length from by omega, List.nil_append, List.append_assoc, List.append_assoc, ← List.append_assoc _ vs, h.2]⟩

section
variable {P : Program} {g : World} {F : List HP} {T : List Value} {L : List HP} {K : List Value → List HP → Prop}

theorem opx_store_c {t ty : TypeId} {x y : Operand} {pos : String} {after : Array Edge} {gd : Option (Nat × Bool)} {b off : Nat} {E : TypeId} {cs cs' : List Value} (i : Nat) (v : Value)
    (hE : okTy P t 1 = true) (hL : nth L i = some (row b E cs)) (hx : ev T x = .pointer (some ⟨b, off, none⟩)) (hy : ev T y = v) (hv : v.oneCell' = true) (hs : Sets cs off v cs')
    (h : K T (L.set i (row b E cs'))) : OpX P g F { dst := none, op := .store t x y, type := ty, pos, after, guard := gd } T L K :=
  opx_store1 i v hE hL hx hy hv hs.1 (by rw [hs.2]; exact h)

theorem opx_storen_c {t ty : TypeId} {x y : Operand} {pos : String} {after : Array Edge} {gd : Option (Nat × Bool)} {b off : Nat} {E : TypeId} {cs cs' : List Value} (sz : Nat) (i : Nat) (vs : List Value)
    (hE : okTy P t sz = true) (hL : nth L i = some (row b E cs)) (hx : ev T x = .pointer (some ⟨b, off, none⟩)) (hy : ev T y = .agg vs.toArray) (hl : vs.length = sz) (hv : ∀ v ∈ vs, v.oneCell' = true) (hs : Puts cs off vs cs')
    (h : K T (L.set i (row b E cs'))) : OpX P g F { dst := none, op := .store t x y, type := ty, pos, after, guard := gd } T L K :=
  opx_storen sz i vs hE hL hx hy hl (List.all_eq_true.2 hv) (by have := hs.1; omega) (by have := hs.2; rw [hl] at this; rw [this]; exact h)

theorem seg_one {k : IntKind} {n : Nat} {f : Nat → Int} : ∀ v ∈ seg k n f, v.oneCell' = true := fun v hv => by
  obtain ⟨i, _, rfl⟩ := List.mem_map.1 hv; rfl

/-- What a stretch of a row reads. -/
theorem reads_row {b : Nat} {E : TypeId} {cs vs : List Value} {off n c : Nat} {sz : Nat} (hl : vs.length = n * sz) (h : Has cs off vs) : Reads (row b E cs) sz (.slice (some ⟨b, off, none⟩) n c) n vs :=
  ⟨fun _ _ _ hS => hS.rd_row (.head _) hl h⟩

theorem run_clear_ints {w : World} {t ty elem : TypeId} {kd : IntKind} {by_ b off n c : Nat} {E : TypeId} {cs : List Value} (hu : P.underlying t = some (.slice elem)) (hE : El P elem (.int kd 0) 1 by_)
    (hb : w.heap[b]? = some (.cells cs.toArray E)) (hfit : off + n ≤ cs.length) (hpos : 0 < n) :
    (Builtin.clear_ #[t] ty #[.slice (some ⟨b, off, none⟩) n c]).run P w = .ok (.tuple #[]) (w.setRow b (cs.take off ++ List.replicate n (Value.int kd 0) ++ cs.drop (off + n)).toArray) := by
  obtain ⟨i, hi, hz, hs1, rfl, hzs⟩ := hE
  have hst := run_storeCells_at P b off E (List.replicate n (Value.int kd 0)) 0 cs.toArray w hb (by simpa using hfit) (fun v hv => by rw [List.eq_of_mem_replicate hv]; rfl)
  simp only [Nat.add_zero, List.length_replicate] at hst
  obtain ⟨m, rfl⟩ : ∃ m, n = m + 1 := ⟨n - 1, by omega⟩
  simp [Builtin.clear_, run_underlying hu, typeInfo, zeroValue, hi, hz, zeroCells_ints, hst]

theorem exec_clear (ρ : Operand → Value) {dst : Option Tmp} {ats : Array TypeId} {ty : TypeId} {x : Operand} {pos : String} {after : Array Edge} {gd : Option (Nat × Bool)} {v : Value} {w w' : World}
    (h : (Builtin.clear_ ats ty #[ρ x]).run P w = .ok v w') :
    (execOp ρ { dst, op := .call { callee := .builtin .clear, args := #[x], argTypes := ats }, type := ty, pos, after, guard := gd }).run P w = .ok (.value v) w' := by
  rw [BigFrame.execOp_builtin, BigFrame.builtin_clear]
  simp [h]

theorem opx_clear_c {d : Option Nat} {t ty elem : TypeId} {x : Operand} {pos : String} {after : Array Edge} {gd : Option (Nat × Bool)} {kd : IntKind} {b off n c : Nat} {E : TypeId} {cs cs' : List Value} (i by_ : Nat)
    (hu : slTy P t elem = true) (hE : intTy P elem kd by_ = true) (hL : nth L i = some (row b E cs)) (hx : ev T x = .slice (some ⟨b, off, none⟩) n c) (hpos : 0 < n) (hs : Puts cs off (List.replicate n (Value.int kd 0)) cs')
    (h : K (putD d (.tuple #[]) T) (L.set i (row b E cs'))) : OpX P g F { dst := d, op := .call { callee := .builtin .clear, args := #[x], argTypes := #[t] }, type := ty, pos, after, guard := gd } T L K := by
  constructor
  intro w hS
  have h0 := sl_at i hL hS
  have hr := run_clear_ints (c := c) (ty := ty) (w := w) (slTy_u hu) (intTy_el hE) (h0.get (.head _)) (n := n) (off := off) (by have := hs.1; simpa using this) hpos
  have h1 := h0.setRow (cs.take off ++ List.replicate n (Value.int kd 0) ++ cs.drop (off + n))
  have e : cs.take off ++ List.replicate n (Value.int kd 0) ++ cs.drop (off + n) = cs' := by have := hs.2; rwa [List.length_replicate] at this
  rw [e] at h1 hr
  exact op_value (exec_clear _ (by rw [act_eval, hx]; exact hr)) ⟨_, _, by rw [act_put], sl_back i hL h1, h⟩
end

/-! ### long zeros, told by runs -/
def isV (v w : Value) : Bool := match v, w with
  | .int k n, .int k' n' => (k == k') && decide (n = n')
  | .bool a, .bool b => a == b
  | _, _ => false
theorem isV_eq {v w : Value} (h : isV v w = true) : v = w := by
  unfold isV at h
  split at h
  · simp only [Bool.and_eq_true, beq_iff_eq, decide_eq_true_eq] at h; rw [h.1, h.2]
  · simp only [beq_iff_eq] at h; rw [h]
  · cases h
def eat : List Value → Nat → Value → List (Nat × Value) → Bool
  | [], n, _, r => n == 0 && r.isEmpty
  | x :: l, n, v, r => match n with
    | n + 1 => isV x v && eat l n v r
    | 0 => match r with
      | (m + 1, v') :: r' => isV x v' && eat l m v' r'
      | _ => false
def runs : List (Nat × Value) → List Value
  | [] => []
  | (n, v) :: r => List.replicate n v ++ runs r
theorem eat_eq : ∀ {l : List Value} {n : Nat} {v : Value} {r : List (Nat × Value)}, eat l n v r = true → l = List.replicate n v ++ runs r
  | [], n, v, r, h => by
    simp only [eat, Bool.and_eq_true, beq_iff_eq, List.isEmpty_iff] at h
    rw [h.1, h.2]; rfl
  | x :: l, n + 1, v, r, h => by
    simp only [eat, Bool.and_eq_true] at h
    rw [isV_eq h.1, eat_eq h.2, List.replicate_succ]; rfl
  | x :: l, 0, v, r, h => by
    match r, h with
    | (m + 1, v') :: r', h =>
      simp only [eat, Bool.and_eq_true] at h
      rw [isV_eq h.1, eat_eq h.2]
      simp [runs, List.replicate_succ]
    | [], h => simp [eat] at h
    | (0, v') :: r', h => simp [eat] at h

/-- A type's zero, spelled by a function of a state. -/
def IsZero (P : Program) (t : TypeId) (cs : List Value) : Prop := ∃ z sz by_, El P t z sz by_ ∧ z.cells = cs.toArray
theorem opx_new_c {P : Program} {g : World} {F : List HP} {T : List Value} {L : List HP} {K : List Value → List HP → Prop} {d : Nat} {t ty : TypeId} {pos : String} {after : Array Edge} {gd : Option (Nat × Bool)} (cs : List Value) (hz : IsZero P t cs)
    (h : ∀ b, K (T.set d (.pointer (some ⟨b, 0, none⟩))) (row b t cs :: L)) : OpX P g F { dst := some d, op := .alloc t, type := ty, pos, after, guard := gd } T L K := by
  obtain ⟨z, sz, by_, hE, hv⟩ := hz
  exact opx_alloc cs hE hv h

def IsZeroA (P : Program) (t : TypeId) (cs : List Value) : Prop := ∃ sz by_, El P t (.agg cs.toArray) sz by_ ∧ ∃ fields places, P.underlying t = some (.struct fields) ∧
  ∀ w, (fields.mapM fun f => do pure (f.offset, ← sizeOf f.type) : Sem (Array (Nat × Nat))).run P w = .ok places w
theorem run_build0 {P : Program} {T : List Value} {d : Option Tmp} {t ty : TypeId} {pos : String} {after : Array Edge} {gd : Option (Nat × Bool)} {cs : List Value} (hz : IsZeroA P t cs) (w : World) :
    (execOp (act T).eval { dst := d, op := .build t #[], type := ty, pos, after, guard := gd }).run P w = .ok (.value (.agg cs.toArray)) w := by
  obtain ⟨sz, by_, ⟨i, hi, hz, _⟩, fields, places, hu, hp⟩ := hz
  have key : (Instr.build t #[]).run P w = .ok (.agg cs.toArray) w := by
    have hzv : (zeroValue t).run P w = .ok (.agg cs.toArray) w := by simp [zeroValue, typeInfo, hi, hz]
    unfold Instr.build
    simp only [Sem.run_bind, hzv, Result.andThen, run_underlying hu, hp]
    rfl
  simp [execOp, key]

/-- make, of many: a list of zeros of which only this is known. -/
theorem opx_make_hid {P : Program} {g : World} {F : List HP} {T : List Value} {L : List HP} {K : List Value → List HP → Prop} {d : Nat} {t ty elem : TypeId} {x y : Operand} {pos : String} {after : Array Edge} {gd : Option (Nat × Bool)} {kd k1 k2 : IntKind} {by_ : Nat} {n c : Int} (nn cc : Nat)
    (hu : slTy P t elem = true) (hE : intTy P elem kd by_ = true) (hx : ev T x = .int k1 n) (hy : ev T y = .int k2 c) (hn : n = nn) (hc : c = cc) (hle : nn ≤ cc) (hb : by_ * cc ≤ 140737488351232 ∧ cc ≤ 140737488351232)
    (h : ∀ a (xs : List Int), a.isNone = false → xs.length = nn → (∀ i, xs.getD i 0 = 0) → K (T.set d (.slice a xs.length cc)) (ints elem kd a cc xs :: L)) :
    OpX P g F { dst := some d, op := .makeSlice t x y, type := ty, pos, after, guard := gd } T L K :=
  opx_make_ints nn cc (List.replicate nn 0) hu hE hx hy hn hc hle hb rfl fun a ha => h a _ ha List.length_replicate fun i => by
    simp only [List.getD, List.getElem?_replicate]
    split <;> rfl

/-- A number is stored in a slice of one's own. -/
theorem opx_store_own_i {P : Program} {g : World} {F : List HP} {T : List Value} {L : List HP} {K : List Value → List HP → Prop} {t ty : TypeId} {x y : Operand} {pos : String} {after : Array Edge} {gd : Option (Nat × Bool)} {E n c off : Nat} {a : Option Addr} {kd : IntKind} {xs : List Int} {e : Int} (i : Nat)
    (hE : okTy P t 1 = true) (hL : nth L i = some (ownS E 1 (.slice a n c) n (xs.map (Value.int kd)))) (hx : ev T x = .pointer (some ⟨blk a, off, none⟩)) (hy : ev T y = .int kd e) (ho : off < xs.length)
    (h : K T (L.set i (ownS E 1 (.slice a n c) n ((xs.set off e).map (Value.int kd))))) : OpX P g F { dst := none, op := .store t x y, type := ty, pos, after, guard := gd } T L K := by
  refine opx_store_own i (.int kd e) hE hL hx hy rfl (by simpa using ho) ?_
  rw [← List.map_set]; exact h
end Go.Xg
