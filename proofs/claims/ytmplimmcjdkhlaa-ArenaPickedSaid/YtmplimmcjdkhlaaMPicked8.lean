import Derived.Test.YtmplimmcjdkhlaaMPicked7
import Derived.ChangeMaps5
/- Arguments: slices of integers, read. Over any program. -/
namespace Go.Xg
open Go Go.Sl
set_option linter.unusedVariables false

theorem open_ints_rd {H : Type} {enc : TypeId × Value → H} {P : Program} {w : World} {sp : Nat → Bool} {held : Bool} {t e : TypeId} {kd : IntKind} {a : Option Addr} {n c : Nat} {d : DataW H} {ps : List MemPlace}
    (ht : P.underlying t = some (.slice e)) (he : P.underlying e = some (.int kd)) (hce : P.cellsOf e = 1) (h : DataW.Trod enc P w 0 sp held t (.slice a n c) d ps) :
    ∃ xs : List Int, xs.length = n ∧ n ≤ maxLen ∧ (∀ x ∈ xs, (Lit.int kd x).wf = true) ∧ ∀ j u, (xs.map (Value.int kd))[j]? = some u → ∃ ad, a = some ad ∧ w.cell? (ad.add j) = some u := by
  obtain ⟨fuel, hf⟩ := h
  rcases ChangeShapes.open_ints ht he hce hf with ⟨hcs, _⟩ | ⟨x, l, c', zs, hcs, _, hl, hm, hz, _, hcell, hwz⟩
  · simp [Value.cells] at hcs
    obtain ⟨rfl, rfl, rfl⟩ := hcs
    exact ⟨[], rfl, Nat.zero_le _, by simp, by simp⟩
  · simp [Value.cells] at hcs
    obtain ⟨rfl, rfl, rfl⟩ := hcs
    have hle : n ≤ zs.length := by rw [hz]; split <;> omega
    refine ⟨zs.take n, by simp [hle], by omega, fun y hy => hwz y (List.mem_of_mem_take hy), fun j u hu => ⟨x, rfl, ?_⟩⟩
    rw [List.getElem?_map, List.getElem?_take] at hu
    split at hu
    · rename_i hj
      rw [hcell j (by omega)]
      rw [List.getElem?_eq_getElem (by omega)] at hu
      simp at hu
      rw [← hu]
      simp [List.getD, show j < zs.length by omega]
    · cases hu

/-- Cells that the world holds. -/
theorem reads_old {w : World} {sz n c : Nat} {a : Option Addr} {vs : List Value} (hl : vs.length = n * sz) (h : ∀ j u, vs[j]? = some u → ∃ ad, a = some ad ∧ w.cell? (ad.add j) = some u) :
    Reads (old w) sz (.slice a n c) n vs :=
  ⟨fun g F w' hS => ⟨a, c, rfl, hl, fun j u hu => by
    obtain ⟨ad, h1, h2⟩ := h j u hu
    exact ⟨ad, h1, old_cell hS (.head _) h2⟩⟩⟩

end Go.Xg

/- Parts of what is only read. Over any program. -/
namespace Go.Xg
open Go Go.Sl
set_option linter.unusedVariables false

end Go.Xg

/- Symbolic running: rows that are spelled by a function of a state (arrays within a struct): what is read, what is written. Over any program. -/
namespace Go.Xg
open Go Go.Sl
set_option linter.unusedVariables false

def Gets (cs : List Value) (off : Nat) (v : Value) : Prop := cs[off]? = some v
def Has (cs : List Value) (off : Nat) (vs : List Value) : Prop := ∀ j v, vs[j]? = some v → cs[off + j]? = some v
def Sets (cs : List Value) (off : Nat) (v : Value) (cs' : List Value) : Prop := off < cs.length ∧ cs.set off v = cs'
def Puts (cs : List Value) (off : Nat) (vs : List Value) (cs' : List Value) : Prop := off + vs.length ≤ cs.length ∧ cs.take off ++ vs ++ cs.drop (off + vs.length) = cs'

/-- A stretch of integers. -/
def seg (k : IntKind) (n : Nat) (f : Nat → Int) : List Value := (List.range n).map fun i => Value.int k (f i)
def upd (f : Nat → Int) (i : Nat) (v : Int) : Nat → Int := fun j => if j = i then v else f j
section
variable {P : Program} {g : World} {F : List HP} {T : List Value} {L : List HP} {K : List Value → List HP → Prop}

theorem opx_store_c {t ty : TypeId} {x y : Operand} {pos : String} {after : Array Edge} {gd : Option (Nat × Bool)} {b off : Nat} {E : TypeId} {cs cs' : List Value} (i : Nat) (v : Value)
    (hE : okTy P t 1 = true) (hL : nth L i = some (row b E cs)) (hx : ev T x = .pointer (some ⟨b, off, none⟩)) (hy : ev T y = v) (hv : v.oneCell' = true) (hs : Sets cs off v cs')
    (h : K T (L.set i (row b E cs'))) : OpX P g F { dst := none, op := .store t x y, type := ty, pos, after, guard := gd } T L K :=
  opx_store1 i v hE hL hx hy hv hs.1 (by rw [hs.2]; exact h)

/-- What a stretch of a row reads. -/
theorem reads_row {b : Nat} {E : TypeId} {cs vs : List Value} {off n c : Nat} {sz : Nat} (hl : vs.length = n * sz) (h : Has cs off vs) : Reads (row b E cs) sz (.slice (some ⟨b, off, none⟩) n c) n vs :=
  ⟨fun _ _ _ hS => hS.rd_row (.head _) hl h⟩

theorem exec_clear (ρ : Operand → Value) {dst : Option Tmp} {ats : Array TypeId} {ty : TypeId} {x : Operand} {pos : String} {after : Array Edge} {gd : Option (Nat × Bool)} {v : Value} {w w' : World}
    (h : (Builtin.clear_ ats ty #[ρ x]).run P w = .ok v w') :
    (execOp ρ { dst, op := .call { callee := .builtin .clear, args := #[x], argTypes := ats }, type := ty, pos, after, guard := gd }).run P w = .ok (.value v) w' := by
  rw [BigFrame.execOp_builtin, BigFrame.builtin_clear]
  simp [h]

end

/-! ### long zeros, told by runs -/
def isV (v w : Value) : Bool := match v, w with
  | .int k n, .int k' n' => (k == k') && decide (n = n')
  | .bool a, .bool b => a == b
  | _, _ => false
def eat : List Value → Nat → Value → List (Nat × Value) → Bool
  | [], n, _, r => n == 0 && r.isEmpty
  | x :: l, n, v, r => match n with
    | n + 1 => isV x v && eat l n v r
    | 0 => match r with
      | (m + 1, v') :: r' => isV x v' && eat l m v' r'
      | _ => false
def runs : List (Nat × Value) → List Value
  | [] => []
  | (n, v) :: r => List.replicate n v ++ runs r
/-- A type's zero, spelled by a function of a state. -/
def IsZero (P : Program) (t : TypeId) (cs : List Value) : Prop := ∃ z sz by_, El P t z sz by_ ∧ z.cells = cs.toArray
def IsZeroA (P : Program) (t : TypeId) (cs : List Value) : Prop := ∃ sz by_, El P t (.agg cs.toArray) sz by_ ∧ ∃ fields places, P.underlying t = some (.struct fields) ∧
  ∀ w, (fields.mapM fun f => do pure (f.offset, ← sizeOf f.type) : Sem (Array (Nat × Nat))).run P w = .ok places w
/-- make, of many: a list of zeros of which only this is known. -/
theorem opx_make_hid {P : Program} {g : World} {F : List HP} {T : List Value} {L : List HP} {K : List Value → List HP → Prop} {d : Nat} {t ty elem : TypeId} {x y : Operand} {pos : String} {after : Array Edge} {gd : Option (Nat × Bool)} {kd k1 k2 : IntKind} {by_ : Nat} {n c : Int} (nn cc : Nat)
    (hu : slTy P t elem = true) (hE : intTy P elem kd by_ = true) (hx : ev T x = .int k1 n) (hy : ev T y = .int k2 c) (hn : n = nn) (hc : c = cc) (hle : nn ≤ cc) (hb : by_ * cc ≤ 140737488351232 ∧ cc ≤ 140737488351232)
    (h : ∀ a (xs : List Int), a.isNone = false → xs.length = nn → (∀ i, xs.getD i 0 = 0) → K (T.set d (.slice a xs.length cc)) (ints elem kd a cc xs :: L)) :
    OpX P g F { dst := some d, op := .makeSlice t x y, type := ty, pos, after, guard := gd } T L K :=
  opx_make_ints nn cc (List.replicate nn 0) hu hE hx hy hn hc hle hb rfl fun a ha => h a _ ha List.length_replicate fun i => by
    simp only [List.getD, List.getElem?_replicate]
    split <;> rfl

/-- A number is stored in a slice of one's own. -/
theorem opx_store_own_i {P : Program} {g : World} {F : List HP} {T : List Value} {L : List HP} {K : List Value → List HP → Prop} {t ty : TypeId} {x y : Operand} {pos : String} {after : Array Edge} {gd : Option (Nat × Bool)} {E n c off : Nat} {a : Option Addr} {kd : IntKind} {xs : List Int} {e : Int} (i : Nat)
    (hE : okTy P t 1 = true) (hL : nth L i = some (ownS E 1 (.slice a n c) n (xs.map (Value.int kd)))) (hx : ev T x = .pointer (some ⟨blk a, off, none⟩)) (hy : ev T y = .int kd e) (ho : off < xs.length)
    (h : K T (L.set i (ownS E 1 (.slice a n c) n ((xs.set off e).map (Value.int kd))))) : OpX P g F { dst := none, op := .store t x y, type := ty, pos, after, guard := gd } T L K := by
  refine opx_store_own i (.int kd e) hE hL hx hy rfl (by simpa using ho) ?_
  rw [← List.map_set]; exact h
end Go.Xg

/- Symbolic running: slices of records of one's own. Over any program. -/
namespace Go.Xg
open Go Go.Sl
set_option linter.unusedVariables false

/-- A slice of records of one's own. -/
abbrev recsO {α : Type} (E sz : Nat) (cells : α → List Value) (a : Option Addr) (c : Nat) (l : List α) : HP := ownS E sz (.slice a l.length c) l.length (recs cells l)

def okTyB (P : Program) (t : TypeId) (sz B : Nat) : Bool := okTy P t sz && (match P.info? t with
  | some i => decide (i.bytes ≤ B)
  | none => false)
theorem okTyB_el {P : Program} {t : TypeId} {sz B : Nat} (h : okTyB P t sz B = true) : ∃ z by_, El P t z sz by_ ∧ by_ ≤ B := by
  unfold okTyB at h
  simp only [Bool.and_eq_true] at h
  obtain ⟨z, by_, i, hi, h1, h2, h3, h4⟩ := okTy_el h.1
  have := h.2
  rw [hi] at this
  simp only [decide_eq_true_eq] at this
  exact ⟨z, by_, ⟨i, hi, h1, h2, h3, h4⟩, by rw [← h3]; exact this⟩

section
variable {P : Program} {f : FuncId} {g : World} {F : List HP} {R : Ending → World → Prop} {k : List Item} {T : List Value} {L : List HP} {K : List Value → List HP → Prop}

theorem at_nil_own (E sz : Nat) (h : At P f g F R k T (ownS E sz (.slice none 0 0) 0 [] :: L)) : At P f g F R k T L := h.sl fun w hS => hS.own_nil E sz

theorem opx_append_recs {α : Type} {cells : α → List Value} {d : Nat} {t ty elem : TypeId} {x y : Operand} {pos : String} {after : Array Edge} {gd : Option (Nat × Bool)} {yv : Value} {a : Option Addr} {c : Nat} {l : List α} (i sz B : Nat) (r : α)
    (hL : nth L i = some (recsO elem sz cells a c l)) (hu : slTy P t elem = true) (hE : okTyB P elem sz B = true) (hx : ev T x = .slice a l.length c) (hy : ev T y = yv) (hr : ∀ w, SL g (L ++ F) w → Rd w sz yv 1 (cells r)) (h1 : (cells r).all (·.oneCell') = true)
    (hfit : (l.length + 1) * B ≤ 140737488351232) (h63 : l.length + 1 ≤ 140737488351232)
    (h : ∀ a' c', K (T.set d (.slice a' (l ++ [r]).length c')) (L.set i (recsO elem sz cells a' c' (l ++ [r])))) :
    OpX P g F { dst := some d, op := .call { callee := .builtin .append, args := #[x, y], argTypes := #[t, t] }, type := ty, pos, after, guard := gd } T L K := by
  obtain ⟨z, by_, hE, hB⟩ := okTyB_el hE
  have hb : (l.length + 1) * by_ ≤ (l.length + 1) * B := Nat.mul_le_mul_left _ hB
  refine opx_append i sz by_ z hL hu hE hx hy hr (fun u hu => List.all_eq_true.1 h1 u hu) (by unfold maxLen; omega) (by omega) fun a' c' => ?_
  have := h a' c'
  have el : (l ++ [r]).length = l.length + 1 := by simp
  have ec : recs cells (l ++ [r]) = recs cells l ++ cells r := by simp [recs]
  unfold recsO at this
  rw [el, ec] at this
  exact this
end
end Go.Xg

/- A cut: what a piece of code does is shown once, and what stands behind it is walked once. -/
namespace Go.Xg
open Go Go.Sl
section
variable {P : Program} {f : FuncId} {g : World} {F : List HP} {R : Ending → World → Prop} {k : List Item} {T : List Value} {L : List HP}
theorem at_cut {α : Type _} {c : Code} (I : α → Prop) (HT : α → List Value) (HL : α → List HP)
    (h1 : ∀ k', (∀ y, I y → At P f g F R k' (HT y) (HL y)) → At P f g F R (.code c :: k') T L)
    (h2 : ∀ y, I y → At P f g F R k (HT y) (HL y)) : At P f g F R (.code c :: k) T L := h1 k h2
theorem at_cut2 {α : Type _} {c d : Code} (I : α → Prop) (HT : α → List Value) (HL : α → List HP)
    (h1 : ∀ k', (∀ y, I y → At P f g F R k' (HT y) (HL y)) → At P f g F R (.code c :: .code d :: k') T L)
    (h2 : ∀ y, I y → At P f g F R k (HT y) (HL y)) : At P f g F R (.code c :: .code d :: k) T L := h1 k h2
end
end Go.Xg

/- Symbolic running: append and clear inside a slice of one's own (what slices.Delete does), slices of three. Over any program. -/
namespace Go.Xg
open Go Go.Sl
set_option linter.unusedVariables false
section
variable {P : Program} {f : FuncId} {g : World} {F : List HP} {R : Ending → World → Prop} {k : List Item} {T : List Value} {L : List HP} {K : List Value → List HP → Prop}

theorem run_sl3 {d : Option Tmp} {t ty elem : TypeId} {x lo hi mx : Operand} {pos : String} {after : Array Edge} {gd : Option (Nat × Bool)} {k1 k2 k3 : IntKind} {e1 e2 e3 : Int} {a : Option Addr} {c len : Nat} (sz l h m : Nat)
    (hu : slTy P t elem = true) (hs : szIs P elem sz = true) (hx : ev T x = .slice a len c) (h1 : ev T lo = .int k1 e1) (h2 : ev T hi = .int k2 e2) (h3 : ev T mx = .int k3 e3) (he1 : e1 = l) (he2 : e2 = h) (he3 : e3 = m) (hlh : l ≤ h) (hhm : h ≤ m) (hmc : m ≤ c) (w : World) :
    (execOp (act T).eval { dst := d, op := .slice t x (some lo) (some hi) (some mx), type := ty, pos, after, guard := gd }).run P w = .ok (.value (.slice (subA a m l sz) (h - l) (m - l))) w := by
  obtain ⟨i, hi', rfl⟩ := szIs_info hs
  subst he1; subst he2; subst he3
  have hu := slTy_u hu
  simp [execOp, Instr.sliceAt, Instr.slice, Instr.sliceBounds, Instr.sliceBound, act_eval, hx, h1, h2, h3, asIntOf, run_underlying hu, sizeOf, typeInfo, hi', hhm, hmc, hlh, subA]

/-- append within what one owns. -/
theorem opx_append_in {d : Nat} {t ty elem : TypeId} {x y : Operand} {pos : String} {after : Array Edge} {gd : Option (Nat × Bool)} {yv : Value} {a : Option Addr} {n c l m : Nat} {vs news : List Value} (N i sz : Nat) (hN : l + m = N)
    (hL : nth L i = some (ownS elem sz (.slice a n c) n vs)) (hu : slTy P t elem = true) (hE : okTy P elem sz = true) (hx : ev T x = .slice a l c) (hy : ev T y = yv)
    (hr : ∀ w, SL g (L ++ F) w → Rd w sz yv m news) (h1 : ∀ u ∈ news, u.oneCell' = true) (hn : 0 < n) (hlm : l + m ≤ n)
    (h : K (T.set d (.slice a N c)) (L.set i (ownS elem sz (.slice a n c) n (vs.take (l * sz) ++ news ++ vs.drop ((l + m) * sz))))) :
    OpX P g F { dst := some d, op := .call { callee := .builtin .append, args := #[x, y], argTypes := #[t, t] }, type := ty, pos, after, guard := gd } T L K := by
  subst hN
  constructor
  intro w hS
  have hR := hr w hS
  obtain ⟨z, by_, hEl⟩ := okTy_el hE
  have hnl : news.length = m * sz := by obtain ⟨_, _, _, h, _⟩ := hR; exact h
  obtain ⟨hl, ⟨e, h0, _⟩ | ⟨b, cap, sp, e, hn', hm, hsp, hrw⟩⟩ := (sl_at i hL hS).own_cases
  · omega
  · cases e
    have hle : (l + m) * sz ≤ n * sz := Nat.mul_le_mul_right _ hlm
    have ha : (l + m) * sz = l * sz + m * sz := Nat.add_mul _ _ _
    have hrun := run_append_room' w t ty elem z sz by_ (slTy_u hu) hEl yv b l c m (vs ++ sp) news (hrw.get (.head _)) hR h1 (by omega) (by rw [List.length_append, hl, hnl]; omega)
    refine op_value (exec_append _ (by rw [act_eval, act_eval, hx, hy]; exact hrun)) ⟨_, _, by rw [act_put]; rfl, sl_back i hL ?_, h⟩
    have e1 : (vs ++ sp).take (l * sz) ++ news ++ (vs ++ sp).drop (l * sz + news.length) = (vs.take (l * sz) ++ news ++ vs.drop ((l + m) * sz)) ++ sp := by
      rw [List.take_append_of_le_length (by omega), List.drop_append_of_le_length (by omega), hnl, ← ha]
      simp
    have h' := hrw.setRow ((vs ++ sp).take (l * sz) ++ news ++ (vs ++ sp).drop (l * sz + news.length))
    rw [e1] at h' ⊢
    refine SL.own_some h' ?_ hn' hm hsp
    rw [List.length_append, List.length_append, List.length_take, List.length_drop, hnl, hl]
    omega

theorem run_clear_any {w : World} {t ty elem : TypeId} {z : Value} {by_ sz b off n c : Nat} {E : TypeId} {cs : List Value} (hu : P.underlying t = some (.slice elem)) (hE : El P elem z sz by_)
    (hz : ∀ u ∈ z.cells.toList, u.oneCell' = true) (hb : w.heap[b]? = some (.cells cs.toArray E)) (hfit : off + n * sz ≤ cs.length) (hpos : 0 < n) :
    (Builtin.clear_ #[t] ty #[.slice (some ⟨b, off, none⟩) n c]).run P w = .ok (.tuple #[]) (w.setRow b (cs.take off ++ (Builtin.zeroCells z.cells n).toList ++ cs.drop (off + n * sz)).toArray) := by
  obtain ⟨i, hi, hz', hs1, rfl, hzs⟩ := hE
  have hl : (Builtin.zeroCells z.cells n).toList.length = n * sz := by rw [zeroCells_list, hzs]
  have hst := run_storeCells_at P b off E (Builtin.zeroCells z.cells n).toList 0 cs.toArray w hb (by simp only [Nat.add_zero, List.size_toArray]; rw [hl]; exact hfit) (fun v hv => by
    refine hz v ?_
    simp only [Builtin.zeroCells, Array.toList_map] at hv
    obtain ⟨j, hj, rfl⟩ := List.mem_map.1 hv
    have hj : j < n * z.cells.size := by simpa using hj
    have hp : 0 < z.cells.size := by
      rcases Nat.eq_zero_or_pos z.cells.size with h | h
      · rw [h, Nat.mul_zero] at hj; omega
      · exact h
    have hm : j % z.cells.size < z.cells.size := Nat.mod_lt _ hp
    rw [getElem!_pos z.cells _ hm]
    exact Array.getElem_mem_toList hm)
  simp only [Nat.add_zero, hl] at hst
  obtain ⟨m, rfl⟩ : ∃ m, n = m + 1 := ⟨n - 1, by omega⟩
  simp [Builtin.clear_, run_underlying hu, typeInfo, zeroValue, hi, hz', hst]

def zOne (P : Program) (t : TypeId) : Bool := match P.info? t with
  | some i => match i.zero with
    | some z => z.cells.toList.all (·.oneCell')
    | none => false
  | none => false

theorem zOne_el {t : TypeId} {z : Value} {sz by_ : Nat} (h : zOne P t = true) (hE : El P t z sz by_) : ∀ u ∈ z.cells.toList, u.oneCell' = true := by
  obtain ⟨i, hi, hz, _, _, _⟩ := hE
  unfold zOne at h
  rw [hi] at h
  simp only [hz] at h
  exact fun u hu => List.all_eq_true.1 h u hu

/-- clear of the last ones of what one owns. -/
theorem opx_clear_in {d : Option Nat} {t ty elem : TypeId} {x : Operand} {pos : String} {after : Array Edge} {gd : Option (Nat × Bool)} {a : Option Addr} {n c l m c' : Nat} {vs : List Value} (i sz : Nat)
    (hL : nth L i = some (ownS elem sz (.slice a n c) n vs)) (hu : slTy P t elem = true) (hE : okTy P elem sz = true) (hz : zOne P elem = true) (hx : ev T x = .slice (subA a c l sz) m c') (hlm : l + m = n) (hm0 : 0 < m)
    (h : ∀ zs, zs.length = m * sz → K (putD d (.tuple #[]) T) (L.set i (ownS elem sz (.slice a n c) n (vs.take (l * sz) ++ zs)))) :
    OpX P g F { dst := d, op := .call { callee := .builtin .clear, args := #[x], argTypes := #[t] }, type := ty, pos, after, guard := gd } T L K := by
  constructor
  intro w hS
  obtain ⟨z, by_, hEl⟩ := okTy_el hE
  have hzs : z.cells.size = sz := by obtain ⟨_, _, _, _, _, h⟩ := hEl; exact h
  obtain ⟨hl, ⟨e, h0, _⟩ | ⟨b, cap, sp, e, hn', hm, hsp, hrw⟩⟩ := (sl_at i hL hS).own_cases
  · omega
  · cases e
    have ha : n * sz = l * sz + m * sz := by rw [← Nat.add_mul, hlm]
    have hx' : ev T x = .slice (some ⟨b, l * sz, none⟩) m c' := by
      rw [hx]; unfold subA
      rw [if_neg (by omega)]
      show Value.slice (some (Addr.add ⟨b, 0, none⟩ (l * sz))) m c' = _
      rw [Addr.add_lit, Nat.zero_add]
    have hrun := run_clear_any (P := P) (c := c') (ty := ty) (w := w) (slTy_u hu) hEl (zOne_el hz hEl) (hrw.get (.head _)) (off := l * sz) (n := m) (by rw [List.length_append, hl]; omega) hm0
    have h' := hrw.setRow ((vs ++ sp).take (l * sz) ++ (Builtin.zeroCells z.cells m).toList ++ (vs ++ sp).drop (l * sz + m * sz))
    have hzl : (Builtin.zeroCells z.cells m).toList.length = m * sz := by rw [zeroCells_list, hzs]
    have e1 : (vs ++ sp).take (l * sz) ++ (Builtin.zeroCells z.cells m).toList ++ (vs ++ sp).drop (l * sz + m * sz) = (vs.take (l * sz) ++ (Builtin.zeroCells z.cells m).toList) ++ sp := by
      rw [List.take_append_of_le_length (by omega), ← ha, ← hl, List.drop_left]
    rw [e1] at h' hrun
    refine op_value (exec_clear _ (by rw [act_eval, hx']; exact hrun)) ⟨_, _, by rw [act_put], sl_back i hL ?_, h _ hzl⟩
    refine SL.own_some h' ?_ hn' hm hsp
    rw [List.length_append, List.length_take, hzl, hl]
    omega

/-- A slice of one's own, made shorter. -/
theorem at_shrink {E sz : Nat} {a : Option Addr} {n c m : Nat} {us zs : List Value} (i : Nat) (hL : nth L i = some (ownS E sz (.slice a n c) n (us ++ zs))) (hm : m ≤ n) (hl : us.length = m * sz)
    (h : At P f g F R k T (L.set i (ownS E sz (.slice a m c) m us))) : At P f g F R k T L := h.sl fun w hS => by
  refine sl_back i hL ?_
  obtain ⟨hl', ⟨e, h0, h1⟩ | ⟨b, cap, sp, e, hn', hmx, hsp, hrw⟩⟩ := (sl_at i hL hS).own_cases
  · cases e
    have : m = 0 := by omega
    subst this
    have : us = [] := by simpa using hl
    subst this
    exact h1.own_nil E sz
  · cases e
    rw [List.append_assoc] at hrw
    refine SL.own_some hrw hl (by omega) hmx ?_
    rw [List.length_append] at hl' ⊢
    rw [hsp, Nat.sub_mul, Nat.sub_mul]
    have : n * sz ≤ c * sz := Nat.mul_le_mul_right _ hn'
    omega
theorem sub_at {b c o : Nat} (h : o ≠ c) : subA (some ⟨b, 0, none⟩) c o 1 = some ⟨b, o, none⟩ := by
  unfold subA
  rw [if_neg (fun e => h e.symm)]
  show some (Addr.add ⟨b, 0, none⟩ (o * 1)) = _
  rw [Addr.add_lit, Nat.zero_add, Nat.mul_one]
/-- copy into a part of what one owns. -/
theorem opx_copy_in {d : Nat} {dT sT ty elem : TypeId} {x y : Operand} {pos : String} {after : Array Edge} {gd : Option (Nat × Bool)} {a ax : Option Addr} {c cx : Nat} {yv : Value} {kd : IntKind} {xs ys : List Int} (i by_ o m : Nat) (xs' : List Int) (r : Int)
    (hL : nth L i = some (ints elem kd a c xs)) (hu : slTy P dT elem = true) (hE : intTy P elem kd by_ = true) (hx : ev T x = .slice ax m cx) (hax : ∀ b, a = some ⟨b, 0, none⟩ → ax = some ⟨b, o, none⟩) (hy : ev T y = yv)
    (hr : ∀ w, SL g (L ++ F) w → Rd w 1 yv ys.length (ys.map (Value.int kd))) (hn : 0 < xs.length) (hom : o + m ≤ xs.length) (hv : xs.take o ++ ys.take m ++ xs.drop (o + min ys.length m) = xs') (hl : xs'.length = xs.length) (hrv : r = ((min ys.length m : Nat) : Int))
    (h : K (T.set d (.int .i64 r)) (L.set i (ints elem kd a c xs'))) :
    OpX P g F { dst := some d, op := .call { callee := .builtin .copy, args := #[x, y], argTypes := #[dT, sT] }, type := ty, pos, after, guard := gd } T L K := by
  subst hrv
  constructor
  intro w hS
  have hR := hr w hS
  obtain ⟨hl1, ⟨e, h0, _⟩ | ⟨b, cap, sp, e, hn', hm, hsp, hrw⟩⟩ := (sl_at i hL hS).own_cases
  · omega
  · cases e
    have hx' := hax b rfl
    subst hx'
    have hmin : Nat.min ys.length m = min ys.length m := rfl
    obtain ⟨w', hr', h'⟩ := hrw.copy dT sT ty elem (.int kd 0) by_ (slTy_u hu) (intTy_el hE) (dLen := m) (dCap := cx) (o := o) hR (fun u hu => by obtain ⟨z, _, rfl⟩ := List.mem_map.1 hu; rfl) (by rw [List.length_append, List.length_map]; omega)
    refine op_value (exec_copy _ (by rw [act_eval, act_eval, hx, hy]; exact hr')) ⟨_, _, by rw [act_put]; rfl, sl_back i hL ?_, h⟩
    have e1 : (xs.map (Value.int kd) ++ sp).take o ++ (ys.map (Value.int kd)).take m ++ (xs.map (Value.int kd) ++ sp).drop (o + Nat.min ys.length m) = xs'.map (Value.int kd) ++ sp := by
      rw [List.take_append_of_le_length (by rw [List.length_map]; omega), List.drop_append_of_le_length (by rw [List.length_map]; omega), ← hv, hmin]
      simp [List.map_take, List.map_drop]
    rw [e1] at h'
    unfold ints
    rw [hl]
    exact SL.own_some h' (by rw [List.length_map, hl, Nat.mul_one]) hn' hm hsp
theorem reads_hi {E sz n c : Nat} {a : Option Addr} {vs : List Value} (h : Nat) (hh : h ≤ n) : Reads (ownS E sz (.slice a n c) n vs) sz (.slice a h c) h (vs.take (h * sz)) := by
  refine ⟨fun g F w hS => ?_⟩
  obtain ⟨a', c', e, hl, hc⟩ := hS.own_rd
  cases e
  refine ⟨_, _, rfl, ?_, fun j u hu => ?_⟩
  · rw [List.length_take, hl]
    exact Nat.min_eq_left (Nat.mul_le_mul_right _ hh)
  · rw [List.getElem?_take] at hu
    split at hu
    · exact hc j u hu
    · cases hu
/-- A slice of one's own stands at the beginning of its block. -/
theorem at_off {E sz n c : Nat} {a : Option Addr} {vs : List Value} (i : Nat) (hL : nth L i = some (ownS E sz (.slice a n c) n vs)) (hn : 0 < n) (h : offA a = 0 → At P f g F R k T L) : At P f g F R k T L :=
  ⟨fun w hS => (h (by rw [(own_some hS i hL).2.2.2.1 hn]; rfl)).run w hS⟩
end
end Go.Xg

/- Short names for printed proofs. -/
namespace Go.Xg
open Go.Sl
abbrev tu : Value := .tuple #[]
abbrev iv (n : Int) : Value := .int .i64 n
abbrev uv (n : Int) : Value := .int .u8 n
abbrev pv (b o : Nat) : Value := .pointer (some ⟨b, o, none⟩)
end Go.Xg
namespace Xs
open Go Go.Sl Go.Xg
variable {P : Program} {f : FuncId} {g : World} {F : List HP} {R : Ending → World → Prop} {k : List Item} {T : List Value} {L L' : List HP}
/-- A round's end: the other slots are what they are. -/
theorem same {HT : (Nat → Value) → List Value} {HL : (Nat → Value) → List HP} (eL : L = HL (fun j => T.getD j undef)) (h : ∀ J, At P f g F R k (HT J) (HL J)) (eT : T = HT (fun j => T.getD j undef)) : At P f g F R k T L := by
  rw [eL]
  generalize (fun j => T.getD j undef) = J at *
  subst eT
  exact h J
end Xs
