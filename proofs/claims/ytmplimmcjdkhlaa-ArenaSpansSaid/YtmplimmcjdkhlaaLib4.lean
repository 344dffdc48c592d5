/- The walk's arms over separation lists: one operation each, at 'wpList' and at 'Oper.wp'. Over any program. -/
import Derived.Test.YtmplimmcjdkhlaaLib2
import Derived.Test.YtmplimmcjdkhlaaLib3
namespace Go.Sl
open Go

section
variable {P : Program} {Q : Exit → Act → World → Prop} {w g : World} {K : Act → World → Prop}

/-- One operation that yields a value. -/
theorem op_value {o : Oper} {a : Act} {w' : World} {v : Value} (h : (execOp a.eval o).run P w = .ok (.value v) w') (hk : K (a.put o.dst v) w') : o.wp P a w K Q := by
  unfold Oper.wp; rw [h]; exact hk

theorem op_skip {o : Oper} {a : Act} {w' : World} (h : (execOp a.eval o).run P w = .ok .skip w') (hk : K (a.put o.dst undef) w') : o.wp P a w K Q := by
  unfold Oper.wp; rw [h]; exact hk

/-- What an operand is in a frame that is written out. -/
def ev (l : List Value) : Operand → Value
  | .tmp t => (nth l t).getD undef
  | .const v => v
  | .global g => .pointer (some ⟨g, 0, none⟩)
  | .func f => .func (.func f) #[] #[]

theorem ev_eq (l : List Value) (ds : List Deferred) (x : Operand) : (Act.mk l.toArray ds).eval x = ev l x := by
  cases x <;> simp [Act.eval, ev, nth_eq]

theorem put_eq (l : List Value) (ds : List Deferred) (d : Nat) (v : Value) : (Act.mk l.toArray ds).put (some d) v = Act.mk (l.set d v).toArray ds := by
  simp [Act.put]

theorem put_none (a : Act) (v : Value) : a.put none v = a := rfl

/-- Does a value of this type take one cell, written as itself? -/
def one (P : Program) (t : TypeId) : Bool := match P.underlying t with
  | some (.struct _) | some (.array _ _) | none => false
  | _ => true

theorem one_load (w : World) (t : TypeId) (ht : one P t = true) (a : Addr) (v : Value) (h : w.cell? a = some v) : (loadVar t a).run P w = .ok v w := by
  unfold one at ht
  cases hu : P.underlying t with
  | none => simp [hu] at ht
  | some d => exact run_loadVar_one w t d hu (by cases d <;> simp [hu] at ht <;> rfl) a v h

theorem exec_load (ρ : Operand → Value) {dst : Option Tmp} {t ty : TypeId} {x : Operand} {pos : String} {after : Array Edge} {gd : Option (Nat × Bool)} {a : Addr} {v : Value} {w' : World}
    (hx : ρ x = .pointer (some a)) (h : (loadVar t a).run P w = .ok v w') : (execOp ρ { dst, op := .load t x, type := ty, pos, after, guard := gd }).run P w = .ok (.value v) w' := by
  simp [execOp, Instr.loadAt, hx, Instr.sureAddr, h]

theorem exec_store (ρ : Operand → Value) {dst : Option Tmp} {t ty : TypeId} {x y : Operand} {pos : String} {after : Array Edge} {gd : Option (Nat × Bool)} {a : Addr} {v : Value} {w' : World}
    (hx : ρ x = .pointer (some a)) (hy : ρ y = v) (h : (storeVar t a v).run P w = .ok () w') : (execOp ρ { dst, op := .store t x y, type := ty, pos, after, guard := gd }).run P w = .ok .skip w' := by
  simp [execOp, Instr.storeAt, hx, hy, Instr.sureAddr, h]

/-- Load of one cell out of a row of the list. -/
theorem w_load {L : List HP} {l : List Value} {ds : List Deferred} {d : Nat} {t ty : TypeId} {x : Operand} {pos : String} {after : Array Edge} {gd : Option (Nat × Bool)} {b o : Nat} {E : TypeId} {cs : List Value} {v : Value} {l' : List Value}
    (hS : SL g L w) (i : Nat) (hL : nth L i = some (row b E cs)) (hx : ev l x = .pointer (some ⟨b, o, none⟩)) (hc : nth cs o = some v) (ht : one P t = true) (hp : l.set d v = l')
    (hk : K (Act.mk l'.toArray ds) w) : Oper.wp P ({ dst := some d, op := .load t x, type := ty, pos, after, guard := gd } : Oper) (Act.mk l.toArray ds) w K Q := by
  refine op_value (exec_load _ (by rw [ev_eq]; exact hx) (one_load w t ht _ v ?_)) ?_
  · rw [hS.cell (b := b) (E := E) (cs := cs) (List.mem_of_getElem? (by rw [← nth_eq]; exact hL)), ← nth_eq]; exact hc
  · rw [put_eq, hp]; exact hk

/-- Load of one cell that is known. -/
theorem w_loadc {l : List Value} {ds : List Deferred} {d : Nat} {t ty : TypeId} {x : Operand} {pos : String} {after : Array Edge} {gd : Option (Nat × Bool)} {ad : Addr} {v : Value} {l' : List Value}
    (hx : ev l x = .pointer (some ad)) (hc : w.cell? ad = some v) (ht : one P t = true) (hp : l.set d v = l')
    (hk : K (Act.mk l'.toArray ds) w) : Oper.wp P ({ dst := some d, op := .load t x, type := ty, pos, after, guard := gd } : Oper) (Act.mk l.toArray ds) w K Q := by
  refine op_value (exec_load _ (by rw [ev_eq]; exact hx) (one_load w t ht _ v hc)) ?_
  rw [put_eq, hp]; exact hk

def aggTy (P : Program) (t : TypeId) : Bool := match P.underlying t with
  | some (.struct _) | some (.array _ _) => true
  | _ => false

theorem agg_load (w : World) (t : TypeId) {z : Value} {sz by_ : Nat} (hE : El P t z sz by_) (ht : aggTy P t = true) (a : Addr) (vs : List Value) (hl : vs.length = sz) (h : ∀ j v, vs[j]? = some v → w.cell? (a.add j) = some v) :
    (loadVar t a).run P w = .ok (.agg vs.toArray) w := by
  unfold aggTy at ht
  cases hu : P.underlying t with
  | none => simp [hu] at ht
  | some d => exact run_loadVar_agg w t d z by_ sz hu (by cases d <;> simp [hu] at ht <;> rfl) hE a vs hl h

/-- Load of a struct or array that is known. -/
theorem w_loada {l : List Value} {ds : List Deferred} {d : Nat} {t ty : TypeId} {x : Operand} {pos : String} {after : Array Edge} {gd : Option (Nat × Bool)} {ad : Addr} {vs : List Value} {l' : List Value} {z : Value} {sz by_ : Nat}
    (hE : El P t z sz by_) (hx : ev l x = .pointer (some ad)) (hl : vs.length = sz) (hc : ∀ j v, vs[j]? = some v → w.cell? (ad.add j) = some v) (ht : aggTy P t = true) (hp : l.set d (.agg vs.toArray) = l')
    (hk : K (Act.mk l'.toArray ds) w) : Oper.wp P ({ dst := some d, op := .load t x, type := ty, pos, after, guard := gd } : Oper) (Act.mk l.toArray ds) w K Q := by
  refine op_value (exec_load _ (by rw [ev_eq]; exact hx) (agg_load w t hE ht _ vs hl hc)) ?_
  rw [put_eq, hp]; exact hk

/-- Store of one cell into a row of the list: it comes to the front. -/
theorem w_store {L L' : List HP} {l : List Value} {ds : List Deferred} {t ty : TypeId} {x y : Operand} {pos : String} {after : Array Edge} {gd : Option (Nat × Bool)} {b o : Nat} {E : TypeId} {cs : List Value} {v z : Value} {by_ : Nat}
    (hS : SL g L w) (i : Nat) (hL : pull i L = row b E cs :: L') (hx : ev l x = .pointer (some ⟨b, o, none⟩)) (hy : ev l y = v) (hE : El P t z 1 by_) (hv : v.oneCell' = true) (ho : o < cs.length)
    (hk : ∀ w', SL g (row b E (cs.set o v) :: L') w' → K (Act.mk l.toArray ds) w') : Oper.wp P ({ dst := none, op := .store t x y, type := ty, pos, after, guard := gd } : Oper) (Act.mk l.toArray ds) w K Q := by
  have h := hS.pull i
  rw [hL] at h
  obtain ⟨w', hr, h'⟩ := h.storeOne t z by_ hE v hv ho
  exact op_skip (exec_store _ (by rw [ev_eq]; exact hx) (by rw [ev_eq]; exact hy) hr) (hk w' h')

theorem w_storea {L L' : List HP} {l : List Value} {ds : List Deferred} {t ty : TypeId} {x y : Operand} {pos : String} {after : Array Edge} {gd : Option (Nat × Bool)} {b o : Nat} {E : TypeId} {cs vs : List Value} {z : Value} {sz by_ : Nat}
    (hE : El P t z sz by_) (hS : SL g L w) (i : Nat) (hL : pull i L = row b E cs :: L') (hx : ev l x = .pointer (some ⟨b, o, none⟩)) (hy : ev l y = .agg vs.toArray) (hl : vs.length = sz) (hv : vs.all (·.oneCell') = true) (ho : o + sz ≤ cs.length)
    (hk : ∀ w', SL g (row b E (cs.take o ++ vs ++ cs.drop (o + sz)) :: L') w' → K (Act.mk l.toArray ds) w') : Oper.wp P ({ dst := none, op := .store t x y, type := ty, pos, after, guard := gd } : Oper) (Act.mk l.toArray ds) w K Q := by
  have h := hS.pull i
  rw [hL] at h
  obtain ⟨w', hr, h'⟩ := h.storeAgg t z sz by_ hE vs hl (fun v hv' => List.all_eq_true.1 hv v hv') ho
  exact op_skip (exec_store _ (by rw [ev_eq]; exact hx) (by rw [ev_eq]; exact hy) hr) (hk w' h')

theorem exec_box (ρ : Operand → Value) {dst : Option Tmp} {t ty : TypeId} {x : Operand} {pos : String} {after : Array Edge} {gd : Option (Nat × Bool)} :
    (execOp ρ { dst, op := .box t x, type := ty, pos, after, guard := gd }).run P w = .ok (.value (.pointer (some ⟨w.heap.size, 0, none⟩))) (w.alloc (.cells (ρ x).cells t)) := by
  simp [execOp, Instr.box, newVar, newRow]

theorem exec_alloc (ρ : Operand → Value) {dst : Option Tmp} {t ty : TypeId} {pos : String} {after : Array Edge} {gd : Option (Nat × Bool)} {z : Value} {sz by_ : Nat} (hE : El P t z sz by_) :
    (execOp ρ { dst, op := .alloc t, type := ty, pos, after, guard := gd }).run P w = .ok (.value (.pointer (some ⟨w.heap.size, 0, none⟩))) (w.alloc (.cells z.cells t)) := by
  obtain ⟨i, hi, hz, rfl, rfl, hzs⟩ := hE
  simp [execOp, Instr.alloc, zeroValue, typeInfo, hi, hz, newVar, newRow]

/-- A new variable with a value. -/
theorem w_box {L : List HP} {l : List Value} {ds : List Deferred} {d : Nat} {t ty : TypeId} {x : Operand} {pos : String} {after : Array Edge} {gd : Option (Nat × Bool)} {v : Value} {cs : List Value}
    (hS : SL g L w) (hx : ev l x = v) (hv : v.cells = cs.toArray)
    (hk : ∀ b w', SL g (row b t cs :: L) w' → ∀ l', l.set d (.pointer (some ⟨b, 0, none⟩)) = l' → K (Act.mk l'.toArray ds) w') : Oper.wp P ({ dst := some d, op := .box t x, type := ty, pos, after, guard := gd } : Oper) (Act.mk l.toArray ds) w K Q := by
  refine op_value (exec_box _) ?_
  rw [put_eq, ev_eq, hx, hv]
  exact (hk _ _ (hS.alloc _) _ rfl)

theorem w_alloc {L : List HP} {l : List Value} {ds : List Deferred} {d : Nat} {t ty : TypeId} {pos : String} {after : Array Edge} {gd : Option (Nat × Bool)} {z : Value} {sz by_ : Nat} {cs : List Value}
    (hE : El P t z sz by_) (hS : SL g L w) (hv : z.cells = cs.toArray)
    (hk : ∀ b w', SL g (row b t cs :: L) w' → ∀ l', l.set d (.pointer (some ⟨b, 0, none⟩)) = l' → K (Act.mk l'.toArray ds) w') : Oper.wp P ({ dst := some d, op := .alloc t, type := ty, pos, after, guard := gd } : Oper) (Act.mk l.toArray ds) w K Q := by
  refine op_value (exec_alloc _ hE) ?_
  rw [put_eq, hv]
  exact (hk _ _ (hS.alloc _) _ rfl)

theorem exec_make (ρ : Operand → Value) {dst : Option Tmp} {t ty : TypeId} {x y : Operand} {pos : String} {after : Array Edge} {gd : Option (Nat × Bool)} {v : Value} {w' : World}
    (h : (Instr.makeSlice t (ρ x) (ρ y)).run P w = .ok v w') : (execOp ρ { dst, op := .makeSlice t x y, type := ty, pos, after, guard := gd }).run P w = .ok (.value v) w' := by
  simp [execOp, h]

theorem w_make {L : List HP} {l : List Value} {ds : List Deferred} {d : Nat} {t e ty : TypeId} {x y : Operand} {pos : String} {after : Array Edge} {gd : Option (Nat × Bool)} {z : Value} {sz by_ : Nat} {kl kc : IntKind} {n c : Int}
    (hE : El P e z sz by_) (hu : P.underlying t = some (.slice e)) (hS : SL g L w) (hx : ev l x = .int kl n) (hy : ev l y = .int kc c) (h0 : 0 ≤ n) (hlc : n ≤ c) (hbytes : (by_ : Int) * c ≤ 281474976710656) (h63 : c ≤ maxLen)
    (hk : ∀ b w', SL g (row b e (madeCells z.cells (c.toNat * sz)).toList :: L) w' → ∀ l', l.set d (.slice (some ⟨b, 0, none⟩) n.toNat c.toNat) = l' → K (Act.mk l'.toArray ds) w') :
    Oper.wp P ({ dst := some d, op := .makeSlice t x y, type := ty, pos, after, guard := gd } : Oper) (Act.mk l.toArray ds) w K Q := by
  obtain ⟨b, w', hr, h'⟩ := hS.make t e z sz by_ hu hE kl kc n c h0 hlc hbytes h63
  refine op_value (exec_make _ (by rw [ev_eq, ev_eq, hx, hy]; exact hr)) ?_
  rw [put_eq]
  exact (hk _ _ h' _ rfl)

theorem fold_set (off : Nat) : ∀ (vs : List Value) (k : Nat) (cells : Array Value), off + k + vs.length ≤ cells.size →
    ((vs.zipIdx k).foldl (fun cs x => cs.setIfInBounds (off + x.2) x.1) cells) = (cells.toList.take (off + k) ++ vs ++ cells.toList.drop (off + k + vs.length)).toArray
  | [], k, cells, _ => by simp
  | v :: vs, k, cells, h => by
    simp only [List.zipIdx_cons, List.foldl_cons]
    simp only [List.length_cons] at h
    rw [fold_set off vs (k + 1) _ (by simp; omega)]
    have e1 : off + (k + 1) = (off + k) + 1 := by omega
    rw [e1]
    simp only [Array.toList_setIfInBounds, List.length_cons]
    congr 1
    rw [List.drop_set_of_lt (by omega), List.take_set, List.take_add_one]
    rw [List.set_append_right _ _ (by simp; omega)]
    have hlt : off + k < cells.toList.length := by simp; omega
    simp only [List.getElem?_eq_getElem hlt, Option.toList_some, List.length_take]
    rw [Nat.min_eq_left (by omega), Nat.sub_self]
    simp [Nat.add_assoc, Nat.add_comm 1]

theorem fill_all (sz : Nat) : ∀ (vs : List Value) (k : Nat) (cells : Array Value), cells.size = (k + vs.length) * sz → (∀ v ∈ vs, v.cells.size = sz) →
    Instr.fill (fun i => some (i * sz, sz)) cells ((vs.zipIdx k).map fun x => (x.2, x.1)) = some (cells.toList.take (k * sz) ++ vs.flatMap (·.cells.toList)).toArray
  | [], k, cells, h, _ => by simp [Instr.fill]; rw [List.take_of_length_le (by simp [h])]
  | v :: vs, k, cells, h, h1 => by
    have hv := h1 v (.head _)
    simp only [List.length_cons] at h
    have hle : k * sz + sz ≤ cells.size := by
      rw [h, ← Nat.succ_mul]; exact Nat.mul_le_mul_right _ (by omega)
    simp only [List.zipIdx_cons, List.map_cons, Instr.fill]
    rw [if_neg (by simp [hv]; omega)]
    have hf := fold_set (k * sz) v.cells.toList 0 cells (by simp [hv]; omega)
    have hz : Array.foldl (fun cs x => cs.setIfInBounds (k * sz + x.2) x.1) cells v.cells.zipIdx = (cells.toList.take (k * sz) ++ v.cells.toList ++ cells.toList.drop (k * sz + sz)).toArray := by
      rw [← Array.foldl_toList, Array.toList_zipIdx]
      simpa [hv] using hf
    have hlen : (cells.toList.take (k * sz) ++ v.cells.toList ++ cells.toList.drop (k * sz + sz)).length = cells.size := by
      simp [hv]; omega
    have := fill_all sz vs (k + 1) (cells.toList.take (k * sz) ++ v.cells.toList ++ cells.toList.drop (k * sz + sz)).toArray
      (by rw [List.size_toArray, hlen, h]; congr 1; omega) (fun x hx => h1 x (.tail _ hx))
    rw [show (fun cs (x : Value × Nat) => match x with | (c, j) => cs.setIfInBounds (k * sz + j) c) = (fun (cs : Array Value) (x : Value × Nat) => cs.setIfInBounds (k * sz + x.2) x.1) from rfl, hz, this]
    congr 2
    have hk : (k + 1) * sz = (cells.toList.take (k * sz) ++ v.cells.toList).length := by simp [hv, Nat.succ_mul]; omega
    simp only
    rw [hk, List.take_left']
    · simp
    · rfl

theorem exec_bs (ρ : Operand → Value) {dst : Option Tmp} {t e ty : TypeId} {len : Nat} {ps : List (Nat × Operand)} {pos : String} {after : Array Edge} {gd : Option (Nat × Bool)} {z : Value} {sz by_ : Nat} {vs : List Value}
    (hE : El P e z sz by_) (hu : P.underlying t = some (.slice e)) (hlen : len * sz ≤ 16777216) (hn : vs.length = len) (hp : (ps.map fun x => (x.1, ρ x.2)) = vs.zipIdx.map fun x => (x.2, x.1)) (hv : ∀ v ∈ vs, v.cells.size = sz) :
    (execOp ρ { dst, op := .buildSlice t len ps.toArray, type := ty, pos, after, guard := gd }).run P w = .ok (.value (.slice (some ⟨w.heap.size, 0, none⟩) len len)) (w.alloc (.cells (vs.flatMap (·.cells.toList)).toArray e)) := by
  obtain ⟨i, hi, hz, rfl, rfl, hzs⟩ := hE
  have hn2 : ¬ (16777216 < len * i.size) := by omega
  have hf := fun c hc => fill_all i.size vs 0 c hc hv
  simp only [Nat.zero_add, hn] at hf
  have hps : (Array.map (fun x : Nat × Operand => (x.1, ρ x.2)) ps.toArray).toList = vs.zipIdx.map fun x => (x.2, x.1) := by simp [← hp]
  have hps' : (Array.map (fun x : Nat × Operand => match x with | (i, x) => (i, ρ x)) ps.toArray).toList = vs.zipIdx.map fun x => (x.2, x.1) := hps
  simp only [execOp, Instr.buildSlice]
  rw [hps']
  by_cases h0 : len * i.size = 0
  · have := hf #[] (by simp [h0])
    simp only [List.take_nil, List.nil_append] at this
    have e0 : (Array.map (fun _ : Nat => (default : Value)) (Array.range 0)) = #[] := by simp [Array.range]
    rw [← e0] at this
    simp [run_underlying hu, sizeOf, typeInfo, hi, h0, this, newRow]
  · have := hf ((Array.range (len * i.size)).map (z.cells[· % z.cells.size]!)) (by simp)
    simp only [Nat.zero_mul, List.take_zero, List.nil_append] at this
    simp [run_underlying hu, sizeOf, typeInfo, zeroValue, hi, hz, h0, hn2, this, newRow]

theorem w_bs {L : List HP} {l : List Value} {ds : List Deferred} {d : Nat} {t e ty : TypeId} {len : Nat} {ps : List (Nat × Operand)} {pos : String} {after : Array Edge} {gd : Option (Nat × Bool)} {z : Value} {sz by_ : Nat}
    (hE : El P e z sz by_) (hu : P.underlying t = some (.slice e)) (hS : SL g L w) (hlen : len * sz ≤ 16777216) (hn : ps.length = len) (hi : ps.map (·.1) = List.range ps.length) (hv : (ps.map fun x => ev l x.2).all (fun v => v.cells.size == sz) = true)
    (hk : ∀ b w', SL g (row b e ((ps.map fun x => ev l x.2).flatMap (·.cells.toList)) :: L) w' → ∀ l', l.set d (.slice (some ⟨b, 0, none⟩) len len) = l' → K (Act.mk l'.toArray ds) w') : Oper.wp P ({ dst := some d, op := .buildSlice t len ps.toArray, type := ty, pos, after, guard := gd } : Oper) (Act.mk l.toArray ds) w K Q := by
  refine op_value (exec_bs _ hE hu hlen (vs := ps.map fun x => ev l x.2) (by simpa using hn) ?_ (fun v hv' => by simpa using List.all_eq_true.1 hv v hv')) ?_
  · apply List.ext_getElem?
    intro k
    have h2 := congrArg (·[k]?) hi
    simp only [List.getElem?_map, List.getElem?_zipIdx] at h2 ⊢
    cases hk : ps[k]? with
    | none => simp
    | some x =>
      have hlt := (List.getElem?_eq_some_iff.1 hk).1
      simp [hk, List.getElem?_range hlt] at h2
      simp [ev_eq, h2]
  · rw [put_eq]
    exact (hk _ _ (hS.alloc _) _ rfl)

theorem exec_append (ρ : Operand → Value) {dst : Option Tmp} {ats : Array TypeId} {ty : TypeId} {x y : Operand} {pos : String} {after : Array Edge} {gd : Option (Nat × Bool)} {v : Value} {w' : World}
    (h : (Builtin.append_ ats ty #[ρ x, ρ y]).run P w = .ok v w') :
    (execOp ρ { dst, op := .call { callee := .builtin .append, args := #[x, y], argTypes := ats }, type := ty, pos, after, guard := gd }).run P w = .ok (.value v) w' := by
  rw [BigFrame.execOp_builtin, BigFrame.builtin_append]
  simp [h]

theorem exec_copy (ρ : Operand → Value) {dst : Option Tmp} {ats : Array TypeId} {ty : TypeId} {x y : Operand} {pos : String} {after : Array Edge} {gd : Option (Nat × Bool)} {v : Value} {w' : World}
    (h : (Builtin.copy_ ats ty #[ρ x, ρ y]).run P w = .ok v w') :
    (execOp ρ { dst, op := .call { callee := .builtin .copy, args := #[x, y], argTypes := ats }, type := ty, pos, after, guard := gd }).run P w = .ok (.value v) w' := by
  rw [BigFrame.execOp_builtin, BigFrame.builtin_copy]
  simp [h]

/-- append to a slice of one's own. -/
theorem w_append {L L' : List HP} {l : List Value} {ds : List Deferred} {d : Nat} {t e ty : TypeId} {x y : Operand} {pos : String} {after : Array Edge} {gd : Option (Nat × Bool)} {z : Value} {sz by_ : Nat} {s xv : Value} {n k : Nat} {vs news : List Value}
    (hE : El P e z sz by_) (hu : P.underlying t = some (.slice e)) (hS : SL g L w) (i : Nat) (hL : pull i L = ownS e sz s n vs :: L') (hx : ev l x = s) (hy : ev l y = xv) (hr : Rd w sz xv k news) (h1 : ∀ u ∈ news, u.oneCell' = true)
    (h63 : n + k ≤ maxLen) (hfit : (n + k) * by_ ≤ 140737488355328)
    (hk : ∀ s' w', SL g (ownS e sz s' (n + k) (vs ++ news) :: L') w' → (s' = .slice none 0 0 ↔ s = .slice none 0 0 ∧ k = 0) → ∀ l', l.set d s' = l' → K (Act.mk l'.toArray ds) w') :
    Oper.wp P ({ dst := some d, op := .call { callee := .builtin .append, args := #[x, y], argTypes := #[t, t] }, type := ty, pos, after, guard := gd } : Oper) (Act.mk l.toArray ds) w K Q := by
  have h := hS.pull i
  rw [hL] at h
  obtain ⟨s', w', hr', h', hn⟩ := h.append t ty e z sz by_ hu hE hr h1 h63 hfit
  refine op_value (exec_append _ (by rw [ev_eq, ev_eq, hx, hy]; exact hr')) ?_
  rw [put_eq]
  exact (hk _ _ h' hn _ rfl)

/-- copy into a row of the list. -/
theorem w_copy {L L' : List HP} {l : List Value} {ds : List Deferred} {d : Nat} {dT sT e ty : TypeId} {x y : Operand} {pos : String} {after : Array Edge} {gd : Option (Nat × Bool)} {z : Value} {by_ : Nat} {xv : Value} {b o dLen dCap k : Nat} {E' : TypeId} {cs vs : List Value} {l' : List Value}
    (hE : El P e z 1 by_) (hu : P.underlying dT = some (.slice e)) (hS : SL g L w) (i : Nat) (hL : pull i L = row b E' cs :: L') (hx : ev l x = .slice (some ⟨b, o, none⟩) dLen dCap) (hy : ev l y = xv) (hr : Rd w 1 xv k vs) (h1 : ∀ u ∈ vs, u.oneCell' = true)
    (hfit : o + Nat.min k dLen ≤ cs.length) (hp : l.set d (goInt (Nat.min k dLen : Nat)) = l')
    (hk : ∀ w', SL g (row b E' (cs.take o ++ vs.take dLen ++ cs.drop (o + Nat.min k dLen)) :: L') w' → K (Act.mk l'.toArray ds) w') :
    Oper.wp P ({ dst := some d, op := .call { callee := .builtin .copy, args := #[x, y], argTypes := #[dT, sT] }, type := ty, pos, after, guard := gd } : Oper) (Act.mk l.toArray ds) w K Q := by
  have h := hS.pull i
  rw [hL] at h
  obtain ⟨w', hr', h'⟩ := h.copy dT sT ty e z by_ hu hE hr h1 hfit
  refine op_value (exec_copy _ (by rw [ev_eq, ev_eq, hx, hy]; exact hr')) ?_
  rw [put_eq, hp]
  exact (hk _ h')

/-! ### steps of a plan -/
section
variable {S : World → Prop} {T : Nat → Bool} {Q0 : Act → World → Prop} {l : List Oper} {eff : Nat → Bool} {rest : List Nat} {i : Nat} {o : Oper}

/-- Operations that only reckon or read. -/
def quietOp (o : Oper) : Bool := match o.op with
  | .move _ | .assign _ | .pick .. | .load .. | .nilCheck _ | .fieldAddr .. | .field .. | .indexAddr .. | .index .. | .slice .. | .binOp .. | .unOp .. | .convert .. | .extract .. | .build .. => true
  | .call { callee := .builtin .len, .. } | .call { callee := .builtin .cap, .. } | .call { callee := .builtin .min, .. } | .call { callee := .builtin .max, .. } => true
  | _ => false

def onlyValue : Result Next → Prop
  | .ok (.value _) _ | .halt .. => True
  | _ => False

theorem onlyValue_v {P : Program} (s : Sem Value) (w : World) : onlyValue (Sem.run P (do pure (.value (← s)) : Sem Next) w) := by
  simp only [Sem.run_bind, Sem.run_pure]
  cases s.run P w <;> simp [onlyValue]

theorem onlyValue_quiet {P : Program} {o : Oper} (h : quietOp o = true) (ρ : Operand → Value) (w : World) : onlyValue ((execOp ρ o).run P w) := by
  unfold quietOp at h
  obtain ⟨dst, op, ty, pos, after, gd⟩ := o
  cases op <;> simp at h
  case nilCheck x =>
    simp only [execOp]
    split
    case h_4 =>
      split
      · simp [runtimePanic, onlyValue]
      · simp only [Sem.run_bind, run_program, Result.andThen_ok]
        rename_i t w' _
        cases (nilAhead (P.types.size + Made.depth) t w' _).run P w with
        | halt _ _ => simp [onlyValue]
        | ok b w'' => cases b with
          | none => simp [onlyValue]
          | some b => cases b <;> simp [onlyValue]
      · simp [onlyValue]
    all_goals simp [runtimePanic, onlyValue]
  case pick c a b =>
    simp only [execOp, Sem.run_bind, Sem.run_pure]
    cases (asBool (ρ c)).run P w <;> simp [onlyValue]
  case call c =>
    obtain ⟨callee, args, ats⟩ := c
    cases callee <;> try simp at h
    rename_i b
    cases b <;> try simp at h
    all_goals first
      | (rw [BigFrame.execOp_builtin]; exact onlyValue_v _ _)
  all_goals first
    | (simp [execOp, onlyValue]; done)
    | exact onlyValue_v _ _

theorem yields_of_wp {tl tl' : List Value} {ds : List Deferred} {d : Nat} {v : Value} {w : World} (hd : o.dst = some d) (hlt : d < tl.length) (hp : tl.set d v = tl')
    (hv : ∀ K : Act → World → Prop, K (Act.mk tl'.toArray ds) w → o.wp P (Act.mk tl.toArray ds) w K NoQ) (hq : quietOp o = true) :
    yieldsAt P o (Act.mk tl.toArray ds) w v := by
  have h := hv (fun a' w' => a' = Act.mk tl'.toArray ds ∧ w' = w) ⟨rfl, rfl⟩
  have put : ∀ u, (Act.mk tl.toArray ds).put (some d) u = Act.mk tl'.toArray ds → u = v := by
    intro u e
    rw [put_eq, ← hp] at e
    have e2 : tl.set d u = tl.set d v := by
      have := congrArg Act.tmps e
      simpa using this
    have e3 := congrArg (·[d]?) e2
    simpa [hlt] using e3
  have hov := onlyValue_quiet (P := P) hq (Act.mk tl.toArray ds).eval w
  unfold yieldsAt
  unfold Oper.wp at h
  generalize (execOp (Act.mk tl.toArray ds).eval o).run P w = r at *
  cases r with
  | ok n w' =>
    cases n <;> simp only [Oper.upon, hd] at h <;> simp only [yieldsUpon]
    case value u => exact ⟨h.2, put u h.1⟩
    all_goals exact hov.elim
  | halt x w' => cases x <;> simp only [Oper.upon, NoQ] at h

/-- One that only reckons or reads: it does the same in every world of 'S'. -/
theorem plan_any {tl : List Value} {ds : List Deferred} {d : Nat} {w : World} (ho : nth l i = some o) (hw : Region.wanted o (yielded l.toArray tl.toArray) = true) (he : eff i = false) (hq : quietOp o = true) (hd : o.dst = some d) (hlt : d < tl.length)
    (h : ∃ v tl', (∀ w', S w' → ∀ K : Act → World → Prop, K (Act.mk tl'.toArray ds) w' → o.wp P (Act.mk tl.toArray ds) w' K NoQ) ∧ tl.set d v = tl' ∧ wpPlan P l S eff T Q0 rest (Act.mk tl'.toArray ds) w) :
    wpPlan P l S eff T Q0 (i :: rest) (Act.mk tl.toArray ds) w := by
  obtain ⟨v, tl', hv, hp, h⟩ := h
  unfold wpPlan
  simp only [ho, hw, he, if_true, Bool.false_eq_true, if_false]
  refine ⟨v, fun w' hS => yields_of_wp hd hlt hp (hv w' hS) hq, ?_⟩
  rw [hd, put_eq, hp]
  exact h
end
end
end Go.Sl
