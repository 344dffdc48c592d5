import Derived.Test.YthjhkondmobaeaaDoorMRam5
import Derived.IntWalk
/- Symbolic running: shapes of posts, sizes of types, integers. Over any program. -/
namespace Go.Xg
open Go Go.Sl
set_option linter.unusedVariables false

/-- It returns this value; its cells are then these. -/
def Ret (v : Value) (ps : List HP) : Value → List HP → Prop := fun v' ps' => v' = v ∧ ps' = ps
/-- .. for some x. -/
def RetE {α : Sort _} (p : α → Prop) (V : α → Value) (PS : α → List HP) : Value → List HP → Prop := fun v' ps' => ∃ x, p x ∧ v' = V x ∧ ps' = PS x

/-- The type has this size, and a zero. -/
def okTy (P : Program) (t : TypeId) (sz : Nat) : Bool := match P.info? t with
  | some i => i.size == sz && (match i.zero with | some z => z.cells.size == sz | none => false)
  | none => false

theorem okTy_el {P : Program} {t : TypeId} {sz : Nat} (h : okTy P t sz = true) : ∃ z by_, El P t z sz by_ := by
  unfold okTy at h
  cases hi : P.info? t with
  | none => simp [hi] at h
  | some i =>
    simp only [hi, Bool.and_eq_true, beq_iff_eq] at h
    obtain ⟨h1, h2⟩ := h
    cases hz : i.zero with
    | none => simp [hz] at h2
    | some z => simp only [hz, beq_iff_eq] at h2; exact ⟨z, i.bytes, i, hi, hz, h1, rfl, h2⟩

/-- The type's zero, as cells. -/
def zeroOf (P : Program) (t : TypeId) : Option (List Value) := (P.info? t).bind fun i => i.zero.map (·.cells.toList)

theorem zeroOf.el {P : Program} {t : TypeId} {cs : List Value} {sz : Nat} (h : zeroOf P t = some cs) (hs : okTy P t sz = true) : ∃ z by_, El P t z sz by_ ∧ z.cells = cs.toArray := by
  obtain ⟨z, by_, hE⟩ := okTy_el hs
  obtain ⟨i, hi, hz, h1, h2, h3⟩ := hE
  refine ⟨z, by_, ⟨i, hi, hz, h1, h2, h3⟩, ?_⟩
  simp [zeroOf, hi, hz] at h
  rw [← h]

section
variable {P : Program} {f : FuncId} {g : World} {F : List HP} {R : Ending → World → Prop} {k : List Item} {T T' : List Value} {L L' : List HP} {o : Oper} {K : List Value → List HP → Prop}

theorem At.same (eT : T = T') (eL : L = L') (h : At P f g F R k T' L') : At P f g F R k T L := by subst eT; subst eL; exact h

theorem opx_call1 {h : FuncId} {args : List Value} {pre : List HP} {v : Value} {ps : List HP} (is : List Nat) (he : ∀ w, (execOp (act T).eval o).run P w = .ok (.enter h args.toArray) w)
    (hs : Does P h args pre (Ret v ps)) (hi : okPick is L.length = true) (hp : pick is L = pre) (hk : K (putD o.dst v T) (ps ++ rest is L)) : OpX P g F o T L K :=
  opx_call is he hs hi hp fun v' ps' ⟨e1, e2⟩ => by rw [e1, e2]; exact hk

theorem opx_callE {α : Sort _} {h : FuncId} {args : List Value} {pre : List HP} {p : α → Prop} {V : α → Value} {PS : α → List HP} (is : List Nat) (he : ∀ w, (execOp (act T).eval o).run P w = .ok (.enter h args.toArray) w)
    (hs : Does P h args pre (RetE p V PS)) (hi : okPick is L.length = true) (hp : pick is L = pre) (hk : ∀ x, p x → K (putD o.dst (V x) T) (PS x ++ rest is L)) : OpX P g F o T L K :=
  opx_call is he hs hi hp fun v' ps' ⟨x, h, e1, e2⟩ => by rw [e1, e2]; exact hk x h

theorem opx_store1 {t ty : TypeId} {x y : Operand} {pos : String} {after : Array Edge} {gd : Option (Nat × Bool)} {b off : Nat} {E : TypeId} {cs : List Value} (i : Nat) (v : Value)
    (hE : okTy P t 1 = true) (hL : nth L i = some (row b E cs)) (hx : ev T x = .pointer (some ⟨b, off, none⟩)) (hy : ev T y = v) (hv : v.oneCell' = true) (ho : off < cs.length)
    (h : K T (L.set i (row b E (cs.set off v)))) : OpX P g F { dst := none, op := .store t x y, type := ty, pos, after, guard := gd } T L K := by
  obtain ⟨z, by_, hE⟩ := okTy_el hE
  exact opx_store i v hL hx hy hE hv ho h

theorem opx_storen {t ty : TypeId} {x y : Operand} {pos : String} {after : Array Edge} {gd : Option (Nat × Bool)} {b off : Nat} {E : TypeId} {cs : List Value} (sz : Nat) (i : Nat) (vs : List Value)
    (hE : okTy P t sz = true) (hL : nth L i = some (row b E cs)) (hx : ev T x = .pointer (some ⟨b, off, none⟩)) (hy : ev T y = .agg vs.toArray) (hl : vs.length = sz) (hv : vs.all (·.oneCell') = true) (ho : off + sz ≤ cs.length)
    (h : K T (L.set i (row b E (cs.take off ++ vs ++ cs.drop (off + sz))))) : OpX P g F { dst := none, op := .store t x y, type := ty, pos, after, guard := gd } T L K := by
  obtain ⟨z, by_, hE⟩ := okTy_el hE
  exact opx_storea i vs hE hL hx hy hl hv ho h

theorem opx_loadn {d : Nat} {t ty : TypeId} {x : Operand} {pos : String} {after : Array Edge} {gd : Option (Nat × Bool)} {b off : Nat} {E : TypeId} {cs : List Value} (sz : Nat) (i : Nat) (vs : List Value)
    (hE : okTy P t sz = true) (hL : nth L i = some (row b E cs)) (hx : ev T x = .pointer (some ⟨b, off, none⟩)) (hl : vs.length = sz) (hc : ∀ j v, vs[j]? = some v → cs[off + j]? = some v) (ht : aggTy P t = true)
    (h : K (T.set d (.agg vs.toArray)) L) : OpX P g F { dst := some d, op := .load t x, type := ty, pos, after, guard := gd } T L K := by
  obtain ⟨z, by_, hE⟩ := okTy_el hE
  exact opx_loada i vs hE hL hx hl hc ht h

/-- The cells of a struct within literal cells. -/
theorem cells_at {vs cs : List Value} {off : Nat} (h : vs = (cs.drop off).take vs.length) : ∀ j v, vs[j]? = some v → cs[off + j]? = some v := by
  intro j v hj
  rw [h, List.getElem?_take] at hj
  split at hj
  · rw [List.getElem?_drop] at hj; exact hj
  · cases hj

theorem opx_new {d : Nat} {t ty : TypeId} {pos : String} {after : Array Edge} {gd : Option (Nat × Bool)} (sz : Nat) (cs : List Value) (hs : okTy P t sz = true) (hz : zeroOf P t = some cs)
    (h : ∀ b, K (T.set d (.pointer (some ⟨b, 0, none⟩))) (row b t cs :: L)) : OpX P g F { dst := some d, op := .alloc t, type := ty, pos, after, guard := gd } T L K := by
  obtain ⟨z, by_, hE, hv⟩ := zeroOf.el hz hs
  exact opx_alloc cs hE hv h

end

section
variable {P : Program} {g : World} {F : List HP} {T : List Value} {L : List HP}

/-- What a load rests on. -/
theorem run_load {d : Option Tmp} {t ty : TypeId} {x : Operand} {pos : String} {after : Array Edge} {gd : Option (Nat × Bool)} {a : Addr} {v : Value} {w : World}
    (hx : ev T x = .pointer (some a)) (ht : one P t = true) (h : w.cell? a = some v) : (execOp (act T).eval { dst := d, op := .load t x, type := ty, pos, after, guard := gd }).run P w = .ok (.value v) w :=
  exec_load _ (by rw [act_eval]; exact hx) (one_load w t ht _ v h)

def CellIs (b off : Nat) (v : Value) (w : World) : Prop := w.cell? ⟨b, off, none⟩ = some v

theorem cell_now {b off : Nat} {E : TypeId} {cs : List Value} {v : Value} (i : Nat) (hL : nth L i = some (row b E cs)) (hc : cs[off]? = some v) (w : World) (hS : SL g (L ++ F) w) : CellIs b off v w := by
  unfold CellIs
  rw [hS.cell (b := b) (E := E) (cs := cs) (sl_nth (w := w) hL)]; exact hc

def Owes (g : World) (F : List HP) (L : List HP) (qs : List (Nat × List Nat × (World → Prop))) (i : Nat) : Prop := ∀ w, SL g (L ++ F) w → SOf qs i w

theorem owes_nil {i : Nat} : Owes g F L [] i := fun _ _ => trivial
theorem owes_skip {i n : Nat} {js : List Nat} {S : World → Prop} {qs : List (Nat × List Nat × (World → Prop))} (hj : js.contains i = false) (h : Owes g F L qs i) : Owes g F L ((n, js, S) :: qs) i :=
  fun w hS => ⟨by rw [if_neg (by rw [hj]; simp)]; trivial, h w hS⟩
theorem owes_cell {i n b off : Nat} {js : List Nat} {v : Value} {E : TypeId} {cs : List Value} {qs : List (Nat × List Nat × (World → Prop))} (m : Nat) (hL : nth L m = some (row b E cs)) (hc : cs[off]? = some v) (h : Owes g F L qs i) :
    Owes g F L ((n, js, CellIs b off v) :: qs) i :=
  fun w hS => ⟨by split; exact cell_now m hL hc w hS; trivial, h w hS⟩

theorem acts {l : List Oper} {es : List Nat} {qs : List (Nat × List Nat × (World → Prop))} {K : List Value → List HP → Prop} {n i : Nat} {listed : List Bool} (h : Owes g F L qs i) (hk : Any P g F l es qs K n (listed.set i true) T L) :
    Acts P g F l es qs K n listed i T L := ⟨h, hk⟩
end

/-! ### integers -/
def band (k : IntKind) (x y : Int) : Int := k.wrap (BitVec.ofInt k.bits x &&& BitVec.ofInt k.bits y).toNat
def bor (k : IntKind) (x y : Int) : Int := k.wrap (BitVec.ofInt k.bits x ||| BitVec.ofInt k.bits y).toNat
def bxor (k : IntKind) (x y : Int) : Int := k.wrap (BitVec.ofInt k.bits x ^^^ BitVec.ofInt k.bits y).toNat
def bclr (k : IntKind) (x y : Int) : Int := k.wrap (BitVec.ofInt k.bits x &&& ~~~ BitVec.ofInt k.bits y).toNat

theorem shr_div (x n : Int) (h : 0 < n) : x.fdiv n = x / n := Int.fdiv_eq_ediv_of_nonneg x (by omega)
theorem rem_mod (x y : Int) (h : 0 ≤ x) : x.tmod y = x % y := Int.tmod_eq_emod_of_nonneg h
theorem wrap_i64_in {n : Int} (h : -9223372036854775808 ≤ n ∧ n ≤ 9223372036854775807) : IntKind.i64.wrap n = n := IntWalk.i64_in n h
theorem wrap_u8_in {n : Int} (h : 0 ≤ n ∧ n ≤ 255) : IntKind.u8.wrap n = n := IntWalk.u8_in n h
theorem wrap_u8_mod (n : Int) : IntKind.u8.wrap n = n % 256 := by simp [IntKind.wrap, IntKind.bits, IntKind.signed]
theorem wrap_i64_quo {x y : Int} (h : 0 ≤ x ∧ x ≤ 9223372036854775807 ∧ 1 ≤ y) : IntKind.i64.wrap (x.tdiv y) = x / y := IntWalk.i64_quo x y h
end Go.Xg

/- Symbolic running: slices. Over any program. -/
namespace Go.Xg
open Go Go.Sl
set_option linter.unusedVariables false

def blk (a : Option Addr) : Nat := match a with
  | some x => x.block
  | none => 0

/-- A slice of integers of one's own. -/
abbrev ints (E : TypeId) (k : IntKind) (a : Option Addr) (c : Nat) (xs : List Int) : HP := ownS E 1 (.slice a xs.length c) xs.length (xs.map (Value.int k))

def szIs (P : Program) (t : TypeId) (sz : Nat) : Bool := match P.info? t with
  | some i => i.size == sz
  | none => false

theorem szIs_info {P : Program} {t : TypeId} {sz : Nat} (h : szIs P t sz = true) : ∃ i, P.info? t = some i ∧ i.size = sz := by
  unfold szIs at h
  cases hi : P.info? t with
  | none => simp [hi] at h
  | some i => simp [hi] at h; exact ⟨i, rfl, h⟩

def slTy (P : Program) (t e : TypeId) : Bool := match P.underlying t with
  | some (.slice e') => e' == e
  | _ => false
theorem slTy_u {P : Program} {t e : TypeId} (h : slTy P t e = true) : P.underlying t = some (.slice e) := by
  unfold slTy at h; split at h
  · rename_i e' he; simp at h; rw [he, h]
  · cases h

def arTy (P : Program) (t : TypeId) (n : Nat) (e : TypeId) : Bool := match P.underlying t with
  | some (.array n' e') => n' == n && e' == e
  | _ => false
section
variable {P : Program} {f : FuncId} {g : World} {F : List HP} {R : Ending → World → Prop} {k : List Item} {T T' : List Value} {L L' : List HP} {o : Oper} {K : List Value → List HP → Prop}
variable {E sz n c : Nat} {a : Option Addr} {vs : List Value} {w : World}

theorem own_some (hS : SL g (L ++ F) w) (i : Nat) (hL : nth L i = some (ownS E sz (.slice a n c) n vs)) :
    n ≤ c ∧ c ≤ maxLen ∧ vs.length = n * sz ∧ (0 < n → a = some ⟨blk a, 0, none⟩) ∧ (∀ j v, vs[j]? = some v → w.cell? ⟨blk a, j, none⟩ = some v) ∧ (a = none → n = 0 ∧ c = 0) := by
  have h := sl_at i hL hS
  obtain ⟨hl, ⟨h1, h2, _⟩ | ⟨b, cap, sp, h1, h2, h3, h4, h5⟩⟩ := h.own_cases
  · cases h1
    have hv : vs = [] := by simpa [h2] using hl
    subst hv
    exact ⟨Nat.le_refl _, Nat.zero_le _, hl, fun h => absurd h (by omega), fun j v h => by simp at h, fun _ => ⟨rfl, rfl⟩⟩
  · cases h1
    refine ⟨h2, h3, hl, fun _ => rfl, fun j v hj => ?_, fun h => by cases h⟩
    show w.cell? ⟨b, j, none⟩ = _
    rw [h5.cell (b := b) (.head _), List.getElem?_append_left (List.getElem?_eq_some_iff.1 hj).1]; exact hj

theorem run_ix_slice {d : Option Tmp} {t ty elem : TypeId} {x y : Operand} {pos : String} {after : Array Edge} {gd : Option (Nat × Bool)} {b off len cap : Nat} {kd : IntKind} {e : Int} (j : Nat)
    (hu : slTy P t elem = true) (hs : szIs P elem sz = true) (hx : ev T x = .slice (some ⟨b, off, none⟩) len cap) (hy : ev T y = .int kd e) (he : e = (j : Int)) (hj : j < len) :
    (execOp (act T).eval { dst := d, op := .indexAddr t x y, type := ty, pos, after, guard := gd }).run P w = .ok (.value (.pointer (some ⟨b, off + j * sz, none⟩))) w := by
  obtain ⟨i, hi, rfl⟩ := szIs_info hs
  subst he
  have hu := slTy_u hu
  simp [execOp, Instr.indexAt, act_eval, hx, hy, asIntOf, run_underlying hu, sizeOf, typeInfo, hi, hj, Addr.add_lit]

theorem opx_ix_own {d : Nat} {t ty elem : TypeId} {x y : Operand} {pos : String} {after : Array Edge} {gd : Option (Nat × Bool)} {kd : IntKind} {e : Int} {szE : Nat} (i sz j off' : Nat)
    (hL : nth L i = some (ownS E szE (.slice a n c) n vs)) (hu : slTy P t elem = true) (hs : szIs P elem sz = true) (hx : ev T x = .slice a n c) (hy : ev T y = .int kd e) (he : e = (j : Int)) (hj : j < n) (ho : j * sz = off')
    (h : K (T.set d (.pointer (some ⟨blk a, off', none⟩))) L) : OpX P g F { dst := some d, op := .indexAddr t x y, type := ty, pos, after, guard := gd } T L K := by
  subst ho
  refine opx_val _ rfl (fun w hS => ?_) h
  obtain ⟨_, _, _, h4, _⟩ := own_some hS i hL
  have := run_ix_slice (w := w) (d := some d) (ty := ty) (pos := pos) (after := after) (gd := gd) (off := 0) j hu hs (by rw [hx, h4 (by omega)]) hy he hj
  rwa [Nat.zero_add] at this

theorem opx_load_own {d : Nat} {t ty : TypeId} {x : Operand} {pos : String} {after : Array Edge} {gd : Option (Nat × Bool)} {off : Nat} (i : Nat) (v : Value)
    (hL : nth L i = some (ownS E sz (.slice a n c) n vs)) (hx : ev T x = .pointer (some ⟨blk a, off, none⟩)) (hc : vs[off]? = some v) (ht : one P t = true)
    (h : K (T.set d v) L) : OpX P g F { dst := some d, op := .load t x, type := ty, pos, after, guard := gd } T L K :=
  opx_val v rfl (fun w hS => exec_load _ (by rw [act_eval]; exact hx) (one_load w t ht _ v ((own_some hS i hL).2.2.2.2.1 _ _ hc))) h

theorem opx_store_own {t ty : TypeId} {x y : Operand} {pos : String} {after : Array Edge} {gd : Option (Nat × Bool)} {off : Nat} (i : Nat) (v : Value)
    (hE : okTy P t 1 = true) (hL : nth L i = some (ownS E sz (.slice a n c) n vs)) (hx : ev T x = .pointer (some ⟨blk a, off, none⟩)) (hy : ev T y = v) (hv : v.oneCell' = true) (ho : off < vs.length)
    (h : K T (L.set i (ownS E sz (.slice a n c) n (vs.set off v)))) : OpX P g F { dst := none, op := .store t x y, type := ty, pos, after, guard := gd } T L K := by
  obtain ⟨z, by_, hE⟩ := okTy_el hE
  constructor
  intro w hS
  have h0 := sl_at i hL hS
  obtain ⟨hl, ⟨h1, h2, _⟩ | ⟨b, cap, sp, h1, h2, h3, h4, h5⟩⟩ := h0.own_cases
  · exfalso; rw [h2, Nat.zero_mul] at hl; omega
  · cases h1
    obtain ⟨w', hr, h'⟩ := h5.storeOne t z by_ hE v hv (o := off) (by rw [List.length_append]; omega)
    rw [List.set_append_left _ _ ho] at h'
    have h6 := SL.own_some (n := n) (cap := c) (sz := sz) h' (by rw [List.length_set]; exact hl) h2 h3 h4
    exact op_skip (exec_store _ (by rw [act_eval]; exact hx) (by rw [act_eval]; exact hy) hr) ⟨T, _, rfl, sl_back i hL h6, h⟩

theorem slice_shape {s : Value} {n : Nat} {vs : List Value} (hS : SL g (ownS E sz s n vs :: L) w) : ∃ a c, s = .slice a n c := by
  obtain ⟨_, ⟨rfl, rfl, _⟩ | ⟨b, cap, sp, rfl, _⟩⟩ := hS.own_cases
  · exact ⟨_, _, rfl⟩
  · exact ⟨_, _, rfl⟩

/-- append to a slice of one's own. -/
theorem opx_append {d : Nat} {t ty elem : TypeId} {x y : Operand} {pos : String} {after : Array Edge} {gd : Option (Nat × Bool)} {yv : Value} {m : Nat} {news : List Value} (i sz by_ : Nat) (z : Value)
    (hL : nth L i = some (ownS elem sz (.slice a n c) n vs)) (hu : slTy P t elem = true) (hE : El P elem z sz by_) (hx : ev T x = .slice a n c) (hy : ev T y = yv) (hr : ∀ w, SL g (L ++ F) w → Rd w sz yv m news) (h1 : ∀ u ∈ news, u.oneCell' = true)
    (h63 : n + m ≤ maxLen) (hfit : (n + m) * by_ ≤ 140737488355328)
    (h : ∀ a' c', K (T.set d (.slice a' (n + m) c')) (L.set i (ownS elem sz (.slice a' (n + m) c') (n + m) (vs ++ news)))) :
    OpX P g F { dst := some d, op := .call { callee := .builtin .append, args := #[x, y], argTypes := #[t, t] }, type := ty, pos, after, guard := gd } T L K := by
  constructor
  intro w hS
  obtain ⟨s', w', hr', h', _⟩ := (sl_at i hL hS).append t ty elem z sz by_ (slTy_u hu) hE (hr w hS) h1 h63 hfit
  obtain ⟨a', c', rfl⟩ := slice_shape h'
  exact op_value (exec_append _ (by rw [act_eval, act_eval, hx, hy]; exact hr')) ⟨_, _, by rw [act_put]; rfl, sl_back i hL h', h a' c'⟩

/-- The type of the elements: an integer's, of so many bytes. -/
def intTy (P : Program) (e : TypeId) (k : IntKind) (by_ : Nat) : Bool := match P.info? e with
  | some i => i.size == 1 && i.bytes == by_ && (match i.zero with | some (.int k' n) => k' == k && n == 0 | _ => false)
  | none => false

theorem intTy_el {e : TypeId} {kd : IntKind} {by_ : Nat} (h : intTy P e kd by_ = true) : El P e (.int kd 0) 1 by_ := by
  unfold intTy at h
  cases hi : P.info? e with
  | none => simp [hi] at h
  | some i =>
    simp only [hi, Bool.and_eq_true, beq_iff_eq] at h
    obtain ⟨⟨h1, h2⟩, h3⟩ := h
    split at h3
    · rename_i k' m hz
      simp only [Bool.and_eq_true, beq_iff_eq] at h3
      obtain ⟨rfl, rfl⟩ := h3
      exact ⟨i, hi, hz, h1, h2, rfl⟩
    · cases h3

theorem opx_append_ints {d : Nat} {t ty elem : TypeId} {x y : Operand} {pos : String} {after : Array Edge} {gd : Option (Nat × Bool)} {yv : Value} {m : Nat} {kd : IntKind} {xs : List Int} (i by_ : Nat) (ys : List Int)
    (hL : nth L i = some (ints elem kd a c xs)) (hu : slTy P t elem = true) (hE : intTy P elem kd by_ = true) (hx : ev T x = .slice a xs.length c) (hy : ev T y = yv) (hm : ys.length = m) (hr : ∀ w, SL g (L ++ F) w → Rd w 1 yv m (ys.map (Value.int kd)))
    (hfit : (xs.length + m) * by_ ≤ 140737488351232) (h63 : xs.length + m ≤ 140737488351232)
    (h : ∀ a' c', K (T.set d (.slice a' (xs ++ ys).length c')) (L.set i (ints elem kd a' c' (xs ++ ys)))) :
    OpX P g F { dst := some d, op := .call { callee := .builtin .append, args := #[x, y], argTypes := #[t, t] }, type := ty, pos, after, guard := gd } T L K := by
  refine opx_append i 1 by_ (.int kd 0) hL hu (intTy_el hE) hx hy hr (fun u hu => by
    obtain ⟨n, _, rfl⟩ := List.mem_map.1 hu; rfl) (by unfold maxLen; omega) (by omega) fun a' c' => ?_
  have := h a' c'
  simp only [ints, List.length_append, List.map_append, hm] at this
  exact this

theorem opx_bs {d : Nat} {t ty elem : TypeId} {len : Nat} {ps : List (Nat × Operand)} {pos : String} {after : Array Edge} {gd : Option (Nat × Bool)} (sz : Nat) (us cs : List Value)
    (hu : slTy P t elem = true) (hE : okTy P elem sz = true) (hlen : len * sz ≤ 16777216) (hn : ps.length = len) (hi : ps.map (·.1) = List.range ps.length) (hus : (ps.map fun x => ev T x.2) = us)
    (hv : us.all (fun v => v.cells.size == sz) = true) (hcs : us.flatMap (·.cells.toList) = cs)
    (h : ∀ b, K (T.set d (.slice (some ⟨b, 0, none⟩) len len)) (row b elem cs :: L)) : OpX P g F { dst := some d, op := .buildSlice t len ps.toArray, type := ty, pos, after, guard := gd } T L K := by
  obtain ⟨z, by_, hE⟩ := okTy_el hE
  constructor
  intro w hS
  subst hus hcs
  refine w_bs (l := T) (ds := []) hE (slTy_u hu) hS hlen hn hi hv fun b w' hS' l' hl => ?_
  subst hl
  exact ⟨_, _, rfl, hS', h b⟩

/-- A row of integers that begins as a slice of one's own. -/
theorem row_ints {b E : Nat} {kd : IntKind} {xs : List Int} {cs : List Value} (hcs : cs = xs.map (Value.int kd)) (hm : xs.length ≤ maxLen) {w : World} (hS : SL g (row b E cs :: L) w) : SL g (ints E kd (some ⟨b, 0, none⟩) xs.length xs :: L) w := by
  subst hcs
  exact SL.own_some (sp := []) (by rw [List.append_nil]; exact hS) (by simp) (Nat.le_refl _) hm (by simp)

theorem ops_row_ints (i : Nat) {all rem : List Oper} {b E : Nat} (kd : IntKind) (xs : List Int) {cs : List Value} (hL : nth L i = some (row b E cs)) (hcs : cs = xs.map (Value.int kd)) (hm : xs.length ≤ maxLen)
    (h : Ops P g F all K rem T (L.set i (ints E kd (some ⟨b, 0, none⟩) xs.length xs))) : Ops P g F all K rem T L :=
  ⟨fun w hS => h.run w (sl_back i hL (row_ints hcs hm (sl_at i hL hS)))⟩

theorem get_ints {kd : IntKind} {xs : List Int} {j : Nat} (h : j < xs.length) : (xs.map (Value.int kd))[j]? = some (.int kd (xs.getD j 0)) := by
  rw [List.getElem?_map, List.getElem?_eq_getElem h, List.getD_eq_getElem?_getD, List.getElem?_eq_getElem h]; rfl

theorem run_shl {d : Option Tmp} {t ty ty2 : TypeId} {x y : Operand} {pos : String} {after : Array Edge} {gd : Option (Nat × Bool)} {k1 k2 : IntKind} {m e : Int} (hx : ev T x = .int k1 m) (hy : ev T y = .int k2 e) (h0 : 0 ≤ e) :
    (execOp (act T).eval { dst := d, op := .binOp .shl t x y ty2, type := ty, pos, after, guard := gd }).run P w = .ok (.value (.int k1 (k1.wrap (m * 2 ^ min e.toNat k1.bits)))) w := by
  have : ¬ e < 0 := by omega
  simp [execOp, eqGuard, binOp, Op.shift, act_eval, hx, hy, this]

theorem run_rem {d : Option Tmp} {t ty ty2 : TypeId} {x y : Operand} {pos : String} {after : Array Edge} {gd : Option (Nat × Bool)} {k1 : IntKind} {m e : Int} (hx : ev T x = .int k1 m) (hy : ev T y = .int k1 e) (h0 : 0 < e) (hm : 0 ≤ m) :
    (execOp (act T).eval { dst := d, op := .binOp .rem t x y ty2, type := ty, pos, after, guard := gd }).run P w = .ok (.value (.int k1 (m % e))) w := by
  have : ¬ e = 0 := by omega
  rw [← Int.tmod_eq_emod_of_nonneg hm]
  simp [execOp, eqGuard, binOp, Op.intDiv, act_eval, hx, hy, this]

theorem opx_run {d : Nat} (v : Value) (hd : o.dst = some d) (he : ∀ w, (execOp (act T).eval o).run P w = .ok (.value v) w) (h : K (T.set d v) L) : OpX P g F o T L K := opx_pure v hd he h
end
end Go.Xg

/- Symbolic running: parts of slices; reading. Over any program. -/
namespace Go.Xg
open Go Go.Sl
set_option linter.unusedVariables false

/-- The address of a slice's part that begins at l. -/
def subA (a : Option Addr) (c l sz : Nat) : Option Addr := if c = l then a else a.map (·.add (l * sz))

/-- Where this part stands, the slice reads so. -/
structure Reads (A : HP) (sz : Nat) (s : Value) (n : Nat) (vs : List Value) : Prop where
  run : ∀ (g : World) (F : List HP) (w : World), SL g (A :: F) w → Rd w sz s n vs

section
variable {P : Program} {f : FuncId} {g : World} {F : List HP} {R : Ending → World → Prop} {k : List Item} {T T' : List Value} {L L' : List HP} {o : Oper} {K : List Value → List HP → Prop}
variable {E sz n c : Nat} {a : Option Addr} {vs : List Value} {w : World} {A : HP} {s : Value}

theorem reads_rd (hr : Reads A sz s n vs) (i : Nat) (hL : nth L i = some A) (hS : SL g (L ++ F) w) : Rd w sz s n vs := hr.run g _ w (sl_at i hL hS)

theorem reads_own : Reads (ownS E sz (.slice a n c) n vs) sz (.slice a n c) n vs := ⟨fun _ _ _ hS => hS.own_rd⟩

theorem run_sl {d : Option Tmp} {t ty elem : TypeId} {x lo hi : Operand} {pos : String} {after : Array Edge} {gd : Option (Nat × Bool)} {k1 k2 : IntKind} {e1 e2 : Int} {len : Nat} (sz l h : Nat)
    (hu : slTy P t elem = true) (hs : szIs P elem sz = true) (hx : ev T x = .slice a len c) (h1 : ev T lo = .int k1 e1) (h2 : ev T hi = .int k2 e2) (he1 : e1 = l) (he2 : e2 = h) (hlh : l ≤ h) (hhc : h ≤ c) (w : World) :
    (execOp (act T).eval { dst := d, op := .slice t x (some lo) (some hi) none, type := ty, pos, after, guard := gd }).run P w = .ok (.value (.slice (subA a c l sz) (h - l) (c - l))) w := by
  obtain ⟨i, hi', rfl⟩ := szIs_info hs
  subst he1; subst he2
  have hu := slTy_u hu
  simp [execOp, Instr.sliceAt, Instr.slice, Instr.sliceBounds, Instr.sliceBound, act_eval, hx, h1, h2, asIntOf, run_underlying hu, sizeOf, typeInfo, hi', hhc, hlh, subA]

theorem run_equal_nil {t elem len : Nat} (hu : P.underlying t = some (.slice elem)) (w : World) : (Op.equal t (.slice a len c) (.slice none 0 0)).run P w = .ok a.isNone w := by
  unfold Op.equal
  rw [show Op.maxDepth = 9999 + 1 from rfl]
  unfold Op.equalIn
  cases a <;> simp [run_underlying hu]

theorem run_slnil {d : Option Tmp} {t ty ty2 elem : TypeId} {x y : Operand} {pos : String} {after : Array Edge} {gd : Option (Nat × Bool)} {len : Nat} (hu : slTy P t elem = true) (hx : ev T x = .slice a len c) (hy : ev T y = .slice none 0 0) (w : World) :
    (execOp (act T).eval { dst := d, op := .binOp .eql t x y ty2, type := ty, pos, after, guard := gd }).run P w = .ok (.value (.bool a.isNone)) w := by
  have h := run_equal_nil (a := a) (c := c) (len := len) (slTy_u hu) w
  simp only [execOp, eqGuard, act_eval, hx, hy, binOp]
  simp [h]

theorem map_add0 (a : Option Addr) : a.map (·.add 0) = a := by cases a <;> simp [Addr.add]

theorem run_sl_hi {d : Option Tmp} {t ty elem : TypeId} {x hi : Operand} {pos : String} {after : Array Edge} {gd : Option (Nat × Bool)} {k2 : IntKind} {e2 : Int} {len : Nat} (sz h : Nat)
    (hu : slTy P t elem = true) (hs : szIs P elem sz = true) (hx : ev T x = .slice a len c) (h2 : ev T hi = .int k2 e2) (he2 : e2 = h) (hhc : h ≤ c) (w : World) :
    (execOp (act T).eval { dst := d, op := .slice t x none (some hi) none, type := ty, pos, after, guard := gd }).run P w = .ok (.value (.slice a h c)) w := by
  obtain ⟨i, hi', rfl⟩ := szIs_info hs
  subst he2
  have hu := slTy_u hu
  have := map_add0 a
  simp [execOp, Instr.sliceAt, Instr.slice, Instr.sliceBounds, Instr.sliceBound, act_eval, hx, h2, asIntOf, run_underlying hu, sizeOf, typeInfo, hi', hhc]
  exact fun _ => this
end
end Go.Xg

/- Symbolic running: loops. Over any program. -/
namespace Go.Xg
open Go Go.Sl
set_option linter.unusedVariables false

def setAll (T : List Value) : List (Nat × Value) → List Value
  | [] => T
  | (i, v) :: l => setAll (T.set i v) l

/-- A frame at a loop's head: these slots are spelled; those that the body writes besides are anything. -/
def headT (T : List Value) (js : List Nat) (ov : List (Nat × Value)) (J : Nat → Value) : List Value := setAll (setAll T (js.map fun j => (j, J j))) ov

/-- What a reading comes to when the loads, in turn, give these values; and where it loads. -/
def feed {α : Type} (P : Program) : Sem α → List Value → Option (α × List Addr)
  | .pure a, [] => some (a, [])
  | .load _ a k, v :: vs => (feed P (k v) vs).map fun x => (x.1, a :: x.2)
  | .program k, vs => feed P (k P) vs
  | .mark _ k, vs => feed P k vs
  | _, _ => none

def CellsAre (w : World) : List Addr → List Value → Prop
  | a :: adl, v :: vs => w.cell? a = some v ∧ CellsAre w adl vs
  | _, _ => True

theorem feed_run {α : Type} {P : Program} {w : World} : ∀ (s : Sem α) (vs : List Value) (x : α) (adl : List Addr), feed P s vs = some (x, adl) → CellsAre w adl vs → s.run P w = .ok x w := by
  intro s
  induction s with
  | pure a => intro vs x adl h _; cases vs <;> simp [feed] at h; simp [Sem.run, h.1]
  | load m a k ih =>
    intro vs x adl h hc
    cases vs with
    | nil => simp [feed] at h
    | cons v vs =>
      simp only [feed, Option.map_eq_some_iff] at h
      obtain ⟨⟨y, bs⟩, h1, h2⟩ := h
      cases h2
      obtain ⟨hc1, hc2⟩ := hc
      simp only [Sem.run, hc1]
      exact ih v vs y bs h1 hc2
  | program k ih => intro vs x adl h hc; simp only [feed] at h; simp only [Sem.run]; exact ih P vs x adl h hc
  | mark m k ih => intro vs x adl h hc; simp only [feed] at h; simp only [Sem.run]; exact ih vs x adl h hc
  | _ => intro vs x adl h; simp [feed] at h

structure AllCells (g : World) (F L : List HP) (adl : List Addr) (vs : List Value) : Prop where
  run : ∀ w, SL g (L ++ F) w → CellsAre w adl vs

theorem cells_nil {g : World} {F L : List HP} : AllCells g F L [] [] := ⟨fun _ _ => trivial⟩
theorem cells_cons {g : World} {F L : List HP} {adl : List Addr} {vs cs : List Value} {b off : Nat} {E : TypeId} {v : Value} (i : Nat) (hL : nth L i = some (row b E cs)) (hc : cs[off]? = some v) (h : AllCells g F L adl vs) :
    AllCells g F L (⟨b, off, none⟩ :: adl) (v :: vs) := ⟨fun w hS => ⟨cell_now i hL hc w hS, h.run w hS⟩⟩

section
variable {P : Program} {f : FuncId} {g : World} {F : List HP} {R : Ending → World → Prop} {k : List Item} {T T' : List Value} {L L' : List HP}

theorem Does.mono {args : List Value} {pre : List HP} {post post' : Value → List HP → Prop} (h : Does P f args pre post) (hp : ∀ v ps, post v ps → post' v ps) : Does P f args pre post' :=
  ⟨fun g F w hS => (h.run g F w hS).mono fun _ _ ⟨v, ps, h1, h2, h3⟩ => ⟨v, ps, hp v ps h1, h2, h3⟩⟩

theorem at_ret_ps {fn : Func} {v : Value} {post : Value → List HP → Prop} (is : List Nat) (ps : List HP) (hf : P.funcs[f]? = some fn) (hr : ∀ w, (results fn T.toArray).run P w = .ok v w)
    (hi : okPick is L.length = true) (hps : pick is L = ps) (hp : post v ps) : At P f g F (RPost g F post) (.code .ret :: k) T L :=
  at_ret_spec is hf hr hi (by rw [hps]; exact hp)
theorem at_end_ps {fn : Func} {v : Value} {post : Value → List HP → Prop} (is : List Nat) (ps : List HP) (hf : P.funcs[f]? = some fn) (hr : ∀ w, (results fn T.toArray).run P w = .ok v w)
    (hi : okPick is L.length = true) (hps : pick is L = ps) (hp : post v ps) : At P f g F (RPost g F post) [] T L :=
  at_end_spec is hf hr hi (by rw [hps]; exact hp)

theorem at_ret_feed {fn : Func} {v : Value} {post : Value → List HP → Prop} (adl : List Addr) (vs : List Value) (is : List Nat) (ps : List HP) (hf : P.funcs[f]? = some fn)
    (hr : feed P (results fn T.toArray) vs = some (v, adl)) (hc : AllCells g F L adl vs)
    (hi : okPick is L.length = true) (hps : pick is L = ps) (hp : post v ps) : At P f g F (RPost g F post) (.code .ret :: k) T L :=
  at_ret hf (fun w hS => feed_run _ _ _ _ hr (hc.run w hS)) fun _ hS => ⟨v, pick is L, by rw [hps]; exact hp, rfl, sl_keep is hi hS⟩

theorem at_rounds_inv {α : Type _} {body : Code} (I : α → Prop) (μ : α → Nat) (HT : α → List Value) (HL : α → List HP) (x : α) (eT : T = HT x) (eL : L = HL x) (hI : I x)
    (h : ∀ x, I x → (∀ y, I y → μ y < μ x → At P f g F R (.code body :: .inLoop body :: k) (HT y) (HL y)) → At P f g F R (.code body :: .inLoop body :: k) (HT x) (HL x)) :
    At P f g F R (.code (.loop body) :: k) T L := by
  subst eT; subst eL
  refine at_loop ?_
  have key : ∀ n x, I x → μ x = n → At P f g F R (.code body :: .inLoop body :: k) (HT x) (HL x) := by
    intro n
    induction n using Nat.strongRecOn with
    | _ n ih => intro x hi hx; exact h x hi fun y hi' hy => ih (μ y) (hx ▸ hy) y hi' rfl
  exact key _ x hI rfl
end
end Go.Xg

/- Bits of whole numbers. Over any program. -/
namespace Go.Xg
open Go Go.Sl

end Go.Xg

/- Symbolic running: what is only read (arguments); rows of structs; appended zeros. Over any program. -/
namespace Go.Xg
open Go Go.Sl
set_option linter.unusedVariables false

def offA (a : Option Addr) : Nat := match a with
  | some x => x.off
  | none => 0

/-- The cells of structs, one behind the other. -/
abbrev recs {α : Type} (cells : α → List Value) (l : List α) : List Value := l.flatMap cells

section
variable {P : Program} {f : FuncId} {g : World} {F : List HP} {R : Ending → World → Prop} {k : List Item} {T T' : List Value} {L L' : List HP} {o : Oper} {K : List Value → List HP → Prop}
variable {E sz n c : Nat} {a : Option Addr} {vs : List Value} {w : World} {A : HP}

theorem opx_call1' {h : FuncId} {args : List Value} {pre : List HP} {v : Value} {ps : List HP} (is : List Nat) (L' : List HP) (he : ∀ w, (execOp (act T).eval o).run P w = .ok (.enter h args.toArray) w)
    (hs : Does P h args pre (Ret v ps)) (hi : okPick is L.length = true) (hp : pick is L = pre) (hL : ps ++ rest is L = L') (hk : K (putD o.dst v T) L') : OpX P g F o T L K :=
  opx_call1 is he hs hi hp (by rw [hL]; exact hk)

theorem opx_callE' {α : Sort _} {h : FuncId} {args : List Value} {pre : List HP} {p : α → Prop} {V : α → Value} {PS : α → List HP} (is : List Nat) (L' : α → List HP) (he : ∀ w, (execOp (act T).eval o).run P w = .ok (.enter h args.toArray) w)
    (hs : Does P h args pre (RetE p V PS)) (hi : okPick is L.length = true) (hp : pick is L = pre) (hL : (fun x => PS x ++ rest is L) = L') (hk : ∀ x, p x → K (putD o.dst (V x) T) (L' x)) : OpX P g F o T L K :=
  opx_callE is he hs hi hp fun x hx => by have := congrFun hL x; rw [this]; exact hk x hx

theorem rd_cell (h : Rd w sz (.slice a n c) n vs) {j : Nat} {v : Value} (hv : vs[j]? = some v) :
    a = some ⟨blk a, offA a, (a.bind (·.spot))⟩ ∧ w.cell? ⟨blk a, offA a + j, none⟩ = some v ∧ (j = 0 → a.bind (·.spot) = none) := by
  obtain ⟨a', c', e, h1, h2⟩ := h
  cases e
  obtain ⟨ad, rfl, h3⟩ := h2 j v hv
  refine ⟨rfl, ?_, ?_⟩
  · by_cases hj : j = 0
    · subst hj
      have hs : ad.spot = none := by
        cases hs : ad.spot with
        | none => rfl
        | some s =>
          exfalso
          simp only [Addr.add, if_true, World.cell?, hs] at h3
          split at h3 <;> simp at h3
      simp only [Addr.add, if_true] at h3
      have : ad = ⟨ad.block, ad.off, none⟩ := by cases ad; simp_all
      rw [this] at h3
      exact h3
    · simp only [Addr.add, if_neg hj] at h3
      exact h3
  · intro hj
    subst hj
    cases hs : ad.spot with
    | none => simp [hs]
    | some s =>
      exfalso
      simp only [Addr.add, if_true, World.cell?, hs] at h3
      split at h3 <;> simp at h3

def RdIs (sz : Nat) (s : Value) (n : Nat) (vs : List Value) (w : World) : Prop := Rd w sz s n vs

theorem run_ix_rd {d : Option Tmp} {t ty elem : TypeId} {x y : Operand} {pos : String} {after : Array Edge} {gd : Option (Nat × Bool)} {kd : IntKind} {e : Int} {szR : Nat} (sz j off' : Nat)
    (hu : slTy P t elem = true) (hs : szIs P elem sz = true) (hx : ev T x = .slice a n c) (hy : ev T y = .int kd e) (he : e = (j : Int)) (hj : j < n) (hlt : j * sz < vs.length) (ho : offA a + j * sz = off') (w : World) (h : RdIs szR (.slice a n c) n vs w) :
    (execOp (act T).eval { dst := d, op := .indexAddr t x y, type := ty, pos, after, guard := gd }).run P w = .ok (.value (.pointer (some ⟨blk a, off', none⟩))) w := by
  subst ho
  obtain ⟨h1, _, h3⟩ := rd_cell h (List.getElem?_eq_getElem hlt)
  obtain ⟨ii, hi, rfl⟩ := szIs_info hs
  subst he
  have hu := slTy_u hu
  rw [h1] at hx
  simp only [execOp, Instr.indexAt, act_eval, hx, hy, asIntOf]
  by_cases h0 : j * ii.size = 0
  · have h4 := h3 h0
    simp [run_underlying hu, sizeOf, typeInfo, hi, hj, Addr.add, h0, h4]
  · simp [run_underlying hu, sizeOf, typeInfo, hi, hj, Addr.add, h0]

theorem run_load_rd {d : Option Tmp} {t ty : TypeId} {x : Operand} {pos : String} {after : Array Edge} {gd : Option (Nat × Bool)} {szR off0 : Nat} {v : Value} (off : Nat)
    (hx : ev T x = .pointer (some ⟨blk a, off0, none⟩)) (ho : off0 = offA a + off) (hc : vs[off]? = some v) (ht : one P t = true) (w : World) (h : RdIs szR (.slice a n c) n vs w) :
    (execOp (act T).eval { dst := d, op := .load t x, type := ty, pos, after, guard := gd }).run P w = .ok (.value v) w :=
  exec_load _ (by rw [act_eval, hx, ho]) (one_load w t ht _ v (rd_cell h hc).2.1)

theorem opx_rd {d : Nat} {szR : Nat} {s : Value} (i : Nat) (v : Value) (hd : o.dst = some d) (hr : Reads A szR s n vs) (hL : nth L i = some A) (he : ∀ w, RdIs szR s n vs w → (execOp (act T).eval o).run P w = .ok (.value v) w)
    (h : K (T.set d v) L) : OpX P g F o T L K := opx_val v hd (fun w hS => he w (reads_rd hr i hL hS)) h

theorem rd_now {szR : Nat} {s : Value} (i : Nat) (hr : Reads A szR s n vs) (hL : nth L i = some A) (w : World) (hS : SL g (L ++ F) w) : RdIs szR s n vs w := reads_rd hr i hL hS

theorem owes_rd {i m szR : Nat} {js : List Nat} {s : Value} {qs : List (Nat × List Nat × (World → Prop))} (ii : Nat) (hr : Reads A szR s n vs) (hL : nth L ii = some A) (h : Owes g F L qs i) :
    Owes g F L ((m, js, RdIs szR s n vs) :: qs) i :=
  fun w hS => ⟨by split; exact reads_rd hr ii hL hS; trivial, h w hS⟩

end
end Go.Xg
