/- Symbolic running: slices. Over any program. -/
import Derived.Test.YtmplimmcjdkhlaaG3
namespace Go.Xg
open Go Go.Sl
set_option linter.unusedVariables false

def blk (a : Option Addr) : Nat := match a with
  | some x => x.block
  | none => 0

/-- A slice of integers of one's own. -/
abbrev ints (E : TypeId) (k : IntKind) (a : Option Addr) (c : Nat) (xs : List Int) : HP := ownS E 1 (.slice a xs.length c) xs.length (xs.map (Value.int k))

def szIs (P : Program) (t : TypeId) (sz : Nat) : Bool := match P.info? t with
  | some i => i.size == sz
  | none => false

theorem szIs_info {P : Program} {t : TypeId} {sz : Nat} (h : szIs P t sz = true) : ∃ i, P.info? t = some i ∧ i.size = sz := by
  unfold szIs at h
  cases hi : P.info? t with
  | none => simp [hi] at h
  | some i => simp [hi] at h; exact ⟨i, rfl, h⟩

def slTy (P : Program) (t e : TypeId) : Bool := match P.underlying t with
  | some (.slice e') => e' == e
  | _ => false
theorem slTy_u {P : Program} {t e : TypeId} (h : slTy P t e = true) : P.underlying t = some (.slice e) := by
  unfold slTy at h; split at h
  · rename_i e' he; simp at h; rw [he, h]
  · cases h

def arTy (P : Program) (t : TypeId) (n : Nat) (e : TypeId) : Bool := match P.underlying t with
  | some (.array n' e') => n' == n && e' == e
  | _ => false
theorem arTy_u {P : Program} {t n e : TypeId} (h : arTy P t n e = true) : P.underlying t = some (.array n e) := by
  unfold arTy at h; split at h
  · rename_i n' e' he; simp at h; rw [he, h.1, h.2]
  · cases h

section
variable {P : Program} {f : FuncId} {g : World} {F : List HP} {R : Ending → World → Prop} {k : List Item} {T T' : List Value} {L L' : List HP} {o : Oper} {K : List Value → List HP → Prop}
variable {E sz n c : Nat} {a : Option Addr} {vs : List Value} {w : World}

theorem own_some (hS : SL g (L ++ F) w) (i : Nat) (hL : nth L i = some (ownS E sz (.slice a n c) n vs)) :
    n ≤ c ∧ c ≤ maxLen ∧ vs.length = n * sz ∧ (0 < n → a = some ⟨blk a, 0, none⟩) ∧ (∀ j v, vs[j]? = some v → w.cell? ⟨blk a, j, none⟩ = some v) ∧ (a = none → n = 0 ∧ c = 0) := by
  have h := sl_at i hL hS
  obtain ⟨hl, ⟨h1, h2, _⟩ | ⟨b, cap, sp, h1, h2, h3, h4, h5⟩⟩ := h.own_cases
  · cases h1
    have hv : vs = [] := by simpa [h2] using hl
    subst hv
    exact ⟨Nat.le_refl _, Nat.zero_le _, hl, fun h => absurd h (by omega), fun j v h => by simp at h, fun _ => ⟨rfl, rfl⟩⟩
  · cases h1
    refine ⟨h2, h3, hl, fun _ => rfl, fun j v hj => ?_, fun h => by cases h⟩
    show w.cell? ⟨b, j, none⟩ = _
    rw [h5.cell (b := b) (.head _), List.getElem?_append_left (List.getElem?_eq_some_iff.1 hj).1]; exact hj

/-- What is known of a slice's lengths. -/
theorem at_own (i : Nat) (hL : nth L i = some (ownS E sz (.slice a n c) n vs)) (h : n ≤ c → c ≤ maxLen → vs.length = n * sz → (a = none → n = 0 ∧ c = 0) → At P f g F R k T L) : At P f g F R k T L :=
  ⟨fun w hS => let ⟨h1, h2, h3, _, _, h6⟩ := own_some hS i hL; (h h1 h2 h3 h6).run w hS⟩

theorem own_rd (hS : SL g (L ++ F) w) (i : Nat) (hL : nth L i = some (ownS E sz (.slice a n c) n vs)) : Rd w sz (.slice a n c) n vs := (sl_at i hL hS).own_rd

theorem row_rd {b : Nat} {cs : List Value} (hS : SL g (L ++ F) w) (i : Nat) (hL : nth L i = some (row b E cs)) (hl : cs.length = n * sz) : Rd w sz (.slice (some ⟨b, 0, none⟩) n c) n cs :=
  (sl_at i hL hS).rd_row (.head _) hl fun j u hu => by rw [Nat.zero_add]; exact hu

theorem run_ix_slice {d : Option Tmp} {t ty elem : TypeId} {x y : Operand} {pos : String} {after : Array Edge} {gd : Option (Nat × Bool)} {b off len cap : Nat} {kd : IntKind} {e : Int} (j : Nat)
    (hu : slTy P t elem = true) (hs : szIs P elem sz = true) (hx : ev T x = .slice (some ⟨b, off, none⟩) len cap) (hy : ev T y = .int kd e) (he : e = (j : Int)) (hj : j < len) :
    (execOp (act T).eval { dst := d, op := .indexAddr t x y, type := ty, pos, after, guard := gd }).run P w = .ok (.value (.pointer (some ⟨b, off + j * sz, none⟩))) w := by
  obtain ⟨i, hi, rfl⟩ := szIs_info hs
  subst he
  have hu := slTy_u hu
  simp [execOp, Instr.indexAt, act_eval, hx, hy, asIntOf, run_underlying hu, sizeOf, typeInfo, hi, hj, Addr.add_lit]

theorem run_ix_array {d : Option Tmp} {t ty elem len : TypeId} {x y : Operand} {pos : String} {after : Array Edge} {gd : Option (Nat × Bool)} {b off : Nat} {kd : IntKind} {e : Int} (j : Nat)
    (hu : arTy P t len elem = true) (hs : szIs P elem sz = true) (hx : ev T x = .pointer (some ⟨b, off, none⟩)) (hy : ev T y = .int kd e) (he : e = (j : Int)) (hj : j < len) :
    (execOp (act T).eval { dst := d, op := .indexAddr t x y, type := ty, pos, after, guard := gd }).run P w = .ok (.value (.pointer (some ⟨b, off + j * sz, none⟩))) w := by
  obtain ⟨i, hi, rfl⟩ := szIs_info hs
  subst he
  have hu := arTy_u hu
  simp [execOp, Instr.indexAt, act_eval, hx, hy, asIntOf, run_underlying hu, Instr.sureAddr, sizeOf, typeInfo, hi, hj, Addr.add_lit]

theorem opx_ix_slice {d : Nat} {t ty elem : TypeId} {x y : Operand} {pos : String} {after : Array Edge} {gd : Option (Nat × Bool)} {b off len cap : Nat} {kd : IntKind} {e : Int} (sz j off' : Nat)
    (hu : slTy P t elem = true) (hs : szIs P elem sz = true) (hx : ev T x = .slice (some ⟨b, off, none⟩) len cap) (hy : ev T y = .int kd e) (he : e = (j : Int)) (hj : j < len) (ho : off + j * sz = off')
    (h : K (T.set d (.pointer (some ⟨b, off', none⟩))) L) : OpX P g F { dst := some d, op := .indexAddr t x y, type := ty, pos, after, guard := gd } T L K := by
  subst ho
  exact opx_val _ rfl (fun w _ => run_ix_slice j hu hs hx hy he hj) h

theorem opx_ix_array {d : Nat} {t ty elem len : TypeId} {x y : Operand} {pos : String} {after : Array Edge} {gd : Option (Nat × Bool)} {b off : Nat} {kd : IntKind} {e : Int} (sz j off' : Nat)
    (hu : arTy P t len elem = true) (hs : szIs P elem sz = true) (hx : ev T x = .pointer (some ⟨b, off, none⟩)) (hy : ev T y = .int kd e) (he : e = (j : Int)) (hj : j < len) (ho : off + j * sz = off')
    (h : K (T.set d (.pointer (some ⟨b, off', none⟩))) L) : OpX P g F { dst := some d, op := .indexAddr t x y, type := ty, pos, after, guard := gd } T L K := by
  subst ho
  exact opx_val _ rfl (fun w _ => run_ix_array j hu hs hx hy he hj) h

theorem opx_ix_own {d : Nat} {t ty elem : TypeId} {x y : Operand} {pos : String} {after : Array Edge} {gd : Option (Nat × Bool)} {kd : IntKind} {e : Int} {szE : Nat} (i sz j off' : Nat)
    (hL : nth L i = some (ownS E szE (.slice a n c) n vs)) (hu : slTy P t elem = true) (hs : szIs P elem sz = true) (hx : ev T x = .slice a n c) (hy : ev T y = .int kd e) (he : e = (j : Int)) (hj : j < n) (ho : j * sz = off')
    (h : K (T.set d (.pointer (some ⟨blk a, off', none⟩))) L) : OpX P g F { dst := some d, op := .indexAddr t x y, type := ty, pos, after, guard := gd } T L K := by
  subst ho
  refine opx_val _ rfl (fun w hS => ?_) h
  obtain ⟨_, _, _, h4, _⟩ := own_some hS i hL
  have := run_ix_slice (w := w) (d := some d) (ty := ty) (pos := pos) (after := after) (gd := gd) (off := 0) j hu hs (by rw [hx, h4 (by omega)]) hy he hj
  rwa [Nat.zero_add] at this

theorem opx_load_own {d : Nat} {t ty : TypeId} {x : Operand} {pos : String} {after : Array Edge} {gd : Option (Nat × Bool)} {off : Nat} (i : Nat) (v : Value)
    (hL : nth L i = some (ownS E sz (.slice a n c) n vs)) (hx : ev T x = .pointer (some ⟨blk a, off, none⟩)) (hc : vs[off]? = some v) (ht : one P t = true)
    (h : K (T.set d v) L) : OpX P g F { dst := some d, op := .load t x, type := ty, pos, after, guard := gd } T L K :=
  opx_val v rfl (fun w hS => exec_load _ (by rw [act_eval]; exact hx) (one_load w t ht _ v ((own_some hS i hL).2.2.2.2.1 _ _ hc))) h

theorem opx_loadn_own {d : Nat} {t ty : TypeId} {x : Operand} {pos : String} {after : Array Edge} {gd : Option (Nat × Bool)} {off : Nat} (szT : Nat) (i : Nat) (us : List Value)
    (hE : okTy P t szT = true) (hL : nth L i = some (ownS E sz (.slice a n c) n vs)) (hx : ev T x = .pointer (some ⟨blk a, off, none⟩)) (hl : us.length = szT) (hc : ∀ j v, us[j]? = some v → vs[off + j]? = some v) (ht : aggTy P t = true)
    (h : K (T.set d (.agg us.toArray)) L) : OpX P g F { dst := some d, op := .load t x, type := ty, pos, after, guard := gd } T L K := by
  obtain ⟨z, by_, hE⟩ := okTy_el hE
  exact opx_val _ rfl (fun w hS => exec_load _ (by rw [act_eval]; exact hx) (agg_load w t hE ht _ us hl fun j v hv => by
    rw [Addr.add_lit]; exact (own_some hS i hL).2.2.2.2.1 _ _ (hc j v hv))) h

theorem opx_store_own {t ty : TypeId} {x y : Operand} {pos : String} {after : Array Edge} {gd : Option (Nat × Bool)} {off : Nat} (i : Nat) (v : Value)
    (hE : okTy P t 1 = true) (hL : nth L i = some (ownS E sz (.slice a n c) n vs)) (hx : ev T x = .pointer (some ⟨blk a, off, none⟩)) (hy : ev T y = v) (hv : v.oneCell' = true) (ho : off < vs.length)
    (h : K T (L.set i (ownS E sz (.slice a n c) n (vs.set off v)))) : OpX P g F { dst := none, op := .store t x y, type := ty, pos, after, guard := gd } T L K := by
  obtain ⟨z, by_, hE⟩ := okTy_el hE
  constructor
  intro w hS
  have h0 := sl_at i hL hS
  obtain ⟨hl, ⟨h1, h2, _⟩ | ⟨b, cap, sp, h1, h2, h3, h4, h5⟩⟩ := h0.own_cases
  · exfalso; rw [h2, Nat.zero_mul] at hl; omega
  · cases h1
    obtain ⟨w', hr, h'⟩ := h5.storeOne t z by_ hE v hv (o := off) (by rw [List.length_append]; omega)
    rw [List.set_append_left _ _ ho] at h'
    have h6 := SL.own_some (n := n) (cap := c) (sz := sz) h' (by rw [List.length_set]; exact hl) h2 h3 h4
    exact op_skip (exec_store _ (by rw [act_eval]; exact hx) (by rw [act_eval]; exact hy) hr) ⟨T, _, rfl, sl_back i hL h6, h⟩

theorem slice_shape {s : Value} {n : Nat} {vs : List Value} (hS : SL g (ownS E sz s n vs :: L) w) : ∃ a c, s = .slice a n c := by
  obtain ⟨_, ⟨rfl, rfl, _⟩ | ⟨b, cap, sp, rfl, _⟩⟩ := hS.own_cases
  · exact ⟨_, _, rfl⟩
  · exact ⟨_, _, rfl⟩

/-- append to a slice of one's own. -/
theorem opx_append {d : Nat} {t ty elem : TypeId} {x y : Operand} {pos : String} {after : Array Edge} {gd : Option (Nat × Bool)} {yv : Value} {m : Nat} {news : List Value} (i sz by_ : Nat) (z : Value)
    (hL : nth L i = some (ownS elem sz (.slice a n c) n vs)) (hu : slTy P t elem = true) (hE : El P elem z sz by_) (hx : ev T x = .slice a n c) (hy : ev T y = yv) (hr : ∀ w, SL g (L ++ F) w → Rd w sz yv m news) (h1 : ∀ u ∈ news, u.oneCell' = true)
    (h63 : n + m ≤ maxLen) (hfit : (n + m) * by_ ≤ 140737488355328)
    (h : ∀ a' c', K (T.set d (.slice a' (n + m) c')) (L.set i (ownS elem sz (.slice a' (n + m) c') (n + m) (vs ++ news)))) :
    OpX P g F { dst := some d, op := .call { callee := .builtin .append, args := #[x, y], argTypes := #[t, t] }, type := ty, pos, after, guard := gd } T L K := by
  constructor
  intro w hS
  obtain ⟨s', w', hr', h', _⟩ := (sl_at i hL hS).append t ty elem z sz by_ (slTy_u hu) hE (hr w hS) h1 h63 hfit
  obtain ⟨a', c', rfl⟩ := slice_shape h'
  exact op_value (exec_append _ (by rw [act_eval, act_eval, hx, hy]; exact hr')) ⟨_, _, by rw [act_put]; rfl, sl_back i hL h', h a' c'⟩

/-- The type of the elements: an integer's, of so many bytes. -/
def intTy (P : Program) (e : TypeId) (k : IntKind) (by_ : Nat) : Bool := match P.info? e with
  | some i => i.size == 1 && i.bytes == by_ && (match i.zero with | some (.int k' n) => k' == k && n == 0 | _ => false)
  | none => false

theorem intTy_el {e : TypeId} {kd : IntKind} {by_ : Nat} (h : intTy P e kd by_ = true) : El P e (.int kd 0) 1 by_ := by
  unfold intTy at h
  cases hi : P.info? e with
  | none => simp [hi] at h
  | some i =>
    simp only [hi, Bool.and_eq_true, beq_iff_eq] at h
    obtain ⟨⟨h1, h2⟩, h3⟩ := h
    split at h3
    · rename_i k' m hz
      simp only [Bool.and_eq_true, beq_iff_eq] at h3
      obtain ⟨rfl, rfl⟩ := h3
      exact ⟨i, hi, hz, h1, h2, rfl⟩
    · cases h3

theorem opx_append_ints {d : Nat} {t ty elem : TypeId} {x y : Operand} {pos : String} {after : Array Edge} {gd : Option (Nat × Bool)} {yv : Value} {m : Nat} {kd : IntKind} {xs : List Int} (i by_ : Nat) (ys : List Int)
    (hL : nth L i = some (ints elem kd a c xs)) (hu : slTy P t elem = true) (hE : intTy P elem kd by_ = true) (hx : ev T x = .slice a xs.length c) (hy : ev T y = yv) (hm : ys.length = m) (hr : ∀ w, SL g (L ++ F) w → Rd w 1 yv m (ys.map (Value.int kd)))
    (hfit : (xs.length + m) * by_ ≤ 140737488351232) (h63 : xs.length + m ≤ 140737488351232)
    (h : ∀ a' c', K (T.set d (.slice a' (xs ++ ys).length c')) (L.set i (ints elem kd a' c' (xs ++ ys)))) :
    OpX P g F { dst := some d, op := .call { callee := .builtin .append, args := #[x, y], argTypes := #[t, t] }, type := ty, pos, after, guard := gd } T L K := by
  refine opx_append i 1 by_ (.int kd 0) hL hu (intTy_el hE) hx hy hr (fun u hu => by
    obtain ⟨n, _, rfl⟩ := List.mem_map.1 hu; rfl) (by unfold maxLen; omega) (by omega) fun a' c' => ?_
  have := h a' c'
  simp only [ints, List.length_append, List.map_append, hm] at this
  exact this

theorem opx_bs {d : Nat} {t ty elem : TypeId} {len : Nat} {ps : List (Nat × Operand)} {pos : String} {after : Array Edge} {gd : Option (Nat × Bool)} (sz : Nat) (us cs : List Value)
    (hu : slTy P t elem = true) (hE : okTy P elem sz = true) (hlen : len * sz ≤ 16777216) (hn : ps.length = len) (hi : ps.map (·.1) = List.range ps.length) (hus : (ps.map fun x => ev T x.2) = us)
    (hv : us.all (fun v => v.cells.size == sz) = true) (hcs : us.flatMap (·.cells.toList) = cs)
    (h : ∀ b, K (T.set d (.slice (some ⟨b, 0, none⟩) len len)) (row b elem cs :: L)) : OpX P g F { dst := some d, op := .buildSlice t len ps.toArray, type := ty, pos, after, guard := gd } T L K := by
  obtain ⟨z, by_, hE⟩ := okTy_el hE
  constructor
  intro w hS
  subst hus hcs
  refine w_bs (l := T) (ds := []) hE (slTy_u hu) hS hlen hn hi hv fun b w' hS' l' hl => ?_
  subst hl
  exact ⟨_, _, rfl, hS', h b⟩

/-- A row of integers that begins as a slice of one's own. -/
theorem row_ints {b E : Nat} {kd : IntKind} {xs : List Int} {cs : List Value} (hcs : cs = xs.map (Value.int kd)) (hm : xs.length ≤ maxLen) {w : World} (hS : SL g (row b E cs :: L) w) : SL g (ints E kd (some ⟨b, 0, none⟩) xs.length xs :: L) w := by
  subst hcs
  exact SL.own_some (sp := []) (by rw [List.append_nil]; exact hS) (by simp) (Nat.le_refl _) hm (by simp)

theorem at_row_ints (i : Nat) {b E : Nat} (kd : IntKind) (xs : List Int) {cs : List Value} (hL : nth L i = some (row b E cs)) (hcs : cs = xs.map (Value.int kd)) (hm : xs.length ≤ maxLen)
    (h : At P f g F R k T (L.set i (ints E kd (some ⟨b, 0, none⟩) xs.length xs))) : At P f g F R k T L :=
  h.sl fun w hS => sl_back i hL (row_ints hcs hm (sl_at i hL hS))

theorem ops_row_ints (i : Nat) {all rem : List Oper} {b E : Nat} (kd : IntKind) (xs : List Int) {cs : List Value} (hL : nth L i = some (row b E cs)) (hcs : cs = xs.map (Value.int kd)) (hm : xs.length ≤ maxLen)
    (h : Ops P g F all K rem T (L.set i (ints E kd (some ⟨b, 0, none⟩) xs.length xs))) : Ops P g F all K rem T L :=
  ⟨fun w hS => h.run w (sl_back i hL (row_ints hcs hm (sl_at i hL hS)))⟩

theorem any_row_ints (i : Nat) {l : List Oper} {es : List Nat} {qs : List (Nat × List Nat × (World → Prop))} {nn : Nat} {listed : List Bool} {b E : Nat} (kd : IntKind) (xs : List Int) {cs : List Value} (hL : nth L i = some (row b E cs)) (hcs : cs = xs.map (Value.int kd)) (hm : xs.length ≤ maxLen)
    (h : Any P g F l es qs K nn listed T (L.set i (ints E kd (some ⟨b, 0, none⟩) xs.length xs))) : Any P g F l es qs K nn listed T L :=
  ⟨fun hc w hS => h.run hc w (sl_back i hL (row_ints hcs hm (sl_at i hL hS)))⟩

theorem get_ints {kd : IntKind} {xs : List Int} {j : Nat} (h : j < xs.length) : (xs.map (Value.int kd))[j]? = some (.int kd (xs.getD j 0)) := by
  rw [List.getElem?_map, List.getElem?_eq_getElem h, List.getD_eq_getElem?_getD, List.getElem?_eq_getElem h]; rfl

theorem run_shl {d : Option Tmp} {t ty ty2 : TypeId} {x y : Operand} {pos : String} {after : Array Edge} {gd : Option (Nat × Bool)} {k1 k2 : IntKind} {m e : Int} (hx : ev T x = .int k1 m) (hy : ev T y = .int k2 e) (h0 : 0 ≤ e) :
    (execOp (act T).eval { dst := d, op := .binOp .shl t x y ty2, type := ty, pos, after, guard := gd }).run P w = .ok (.value (.int k1 (k1.wrap (m * 2 ^ min e.toNat k1.bits)))) w := by
  have : ¬ e < 0 := by omega
  simp [execOp, eqGuard, binOp, Op.shift, act_eval, hx, hy, this]

theorem run_shr {d : Option Tmp} {t ty ty2 : TypeId} {x y : Operand} {pos : String} {after : Array Edge} {gd : Option (Nat × Bool)} {k1 k2 : IntKind} {m e : Int} (hx : ev T x = .int k1 m) (hy : ev T y = .int k2 e) (h0 : 0 ≤ e) :
    (execOp (act T).eval { dst := d, op := .binOp .shr t x y ty2, type := ty, pos, after, guard := gd }).run P w = .ok (.value (.int k1 (m.fdiv (2 ^ min e.toNat k1.bits)))) w := by
  have : ¬ e < 0 := by omega
  simp [execOp, eqGuard, binOp, Op.shift, act_eval, hx, hy, this]

theorem run_rem {d : Option Tmp} {t ty ty2 : TypeId} {x y : Operand} {pos : String} {after : Array Edge} {gd : Option (Nat × Bool)} {k1 : IntKind} {m e : Int} (hx : ev T x = .int k1 m) (hy : ev T y = .int k1 e) (h0 : 0 < e) (hm : 0 ≤ m) :
    (execOp (act T).eval { dst := d, op := .binOp .rem t x y ty2, type := ty, pos, after, guard := gd }).run P w = .ok (.value (.int k1 (m % e))) w := by
  have : ¬ e = 0 := by omega
  rw [← Int.tmod_eq_emod_of_nonneg hm]
  simp [execOp, eqGuard, binOp, Op.intDiv, act_eval, hx, hy, this]

theorem run_quo {d : Option Tmp} {t ty ty2 : TypeId} {x y : Operand} {pos : String} {after : Array Edge} {gd : Option (Nat × Bool)} {m e : Int} (hx : ev T x = .int .i64 m) (hy : ev T y = .int .i64 e) (h0 : 0 < e) (hm : 0 ≤ m ∧ m ≤ 9223372036854775807) :
    (execOp (act T).eval { dst := d, op := .binOp .quo t x y ty2, type := ty, pos, after, guard := gd }).run P w = .ok (.value (.int .i64 (m / e))) w := by
  have : ¬ e = 0 := by omega
  rw [← wrap_i64_quo (x := m) (y := e) ⟨hm.1, hm.2, by omega⟩]
  simp [execOp, eqGuard, binOp, Op.intDiv, act_eval, hx, hy, this]

theorem run_ix_slice' {d : Option Tmp} {t ty elem : TypeId} {x y : Operand} {pos : String} {after : Array Edge} {gd : Option (Nat × Bool)} {b off len cap : Nat} {kd : IntKind} {e : Int} (sz j off' : Nat)
    (hu : slTy P t elem = true) (hs : szIs P elem sz = true) (hx : ev T x = .slice (some ⟨b, off, none⟩) len cap) (hy : ev T y = .int kd e) (he : e = (j : Int)) (hj : j < len) (ho : off + j * sz = off') (w : World) :
    (execOp (act T).eval { dst := d, op := .indexAddr t x y, type := ty, pos, after, guard := gd }).run P w = .ok (.value (.pointer (some ⟨b, off', none⟩))) w := by
  subst ho; exact run_ix_slice j hu hs hx hy he hj

theorem run_ix_array' {d : Option Tmp} {t ty elem len : TypeId} {x y : Operand} {pos : String} {after : Array Edge} {gd : Option (Nat × Bool)} {b off : Nat} {kd : IntKind} {e : Int} (sz j off' : Nat)
    (hu : arTy P t len elem = true) (hs : szIs P elem sz = true) (hx : ev T x = .pointer (some ⟨b, off, none⟩)) (hy : ev T y = .int kd e) (he : e = (j : Int)) (hj : j < len) (ho : off + j * sz = off') (w : World) :
    (execOp (act T).eval { dst := d, op := .indexAddr t x y, type := ty, pos, after, guard := gd }).run P w = .ok (.value (.pointer (some ⟨b, off', none⟩))) w := by
  subst ho; exact run_ix_array j hu hs hx hy he hj

theorem opx_run {d : Nat} (v : Value) (hd : o.dst = some d) (he : ∀ w, (execOp (act T).eval o).run P w = .ok (.value v) w) (h : K (T.set d v) L) : OpX P g F o T L K := opx_pure v hd he h
end
end Go.Xg
