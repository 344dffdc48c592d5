import Derived.Test.YthjhkondmobaeaaDoorMRam4
import Derived.Laws.CopyOwn
/- Memory operations over separation lists: loads, stores, new blocks, append, copy, make. Over any program. -/
namespace Go.Sl
open Go

/-- Element type E has zero value z, sz cells, by bytes. -/
def El (P : Program) (E : TypeId) (z : Value) (sz by_ : Nat) : Prop := ∃ i, P.info? E = some i ∧ i.zero = some z ∧ i.size = sz ∧ i.bytes = by_ ∧ z.cells.size = sz

/-- A slice value reads as these cells. -/
def Rd (w : World) (sz : Nat) (s : Value) (n : Nat) (vs : List Value) : Prop :=
  ∃ a c, s = .slice a n c ∧ vs.length = n * sz ∧ ∀ j u, vs[j]? = some u → ∃ ad, a = some ad ∧ w.cell? (ad.add j) = some u

theorem Rd.nil (w : World) (sz c : Nat) : Rd w sz (.slice none 0 c) 0 [] := ⟨none, c, rfl, by simp, by simp⟩

theorem Rd.drew {w : World} {sz : Nat} {s : Value} {n : Nat} {vs : List Value} (h : Rd w sz s n vs) : Rd w.drew sz s n vs := h

theorem Rd.first {P : Program} {w : World} {sz : Nat} {s : Value} {n : Nat} {vs : List Value} (h : Rd w sz s n vs) : (Builtin.firstCells sz n s).run P w = .ok vs.toArray w := by
  obtain ⟨a, c, rfl, hl, hc⟩ := h
  cases a with
  | none =>
    have : vs = [] := by
      cases vs with
      | nil => rfl
      | cons v vs => obtain ⟨ad, h, _⟩ := hc 0 v rfl; cases h
    subst this
    simp [Builtin.firstCells]
  | some ad =>
    exact run_firstCells_some (P := P) w sz n ad n c vs hl (fun j v hv => by obtain ⟨ad', h, h'⟩ := hc j v hv; cases h; exact h')

/-- A slice of the function's own: nil, or it begins a block that nobody else has. -/
def ownS (E : TypeId) (sz : Nat) (s : Value) (n : Nat) (vs : List Value) : HP := fun m =>
  vs.length = n * sz ∧ ((s = .slice none 0 0 ∧ n = 0 ∧ emp m) ∨
    ∃ b cap sp, s = .slice (some ⟨b, 0, none⟩) n cap ∧ n ≤ cap ∧ cap ≤ maxLen ∧ sp.length = (cap - n) * sz ∧ row b E (vs ++ sp) m)

theorem SL.rd_row {g w : World} {L : List HP} {b o : Nat} {E : TypeId} {cs vs : List Value} {n c sz : Nat} (h : SL g L w) (hb : row b E cs ∈ L) (hl : vs.length = n * sz)
    (hv : ∀ j u, vs[j]? = some u → cs[o + j]? = some u) : Rd w sz (.slice (some ⟨b, o, none⟩) n c) n vs :=
  ⟨_, _, rfl, hl, fun j u hu => ⟨_, rfl, by rw [Addr.add_lit, h.cell hb]; exact hv j u hu⟩⟩

theorem SL.own_nil {g w : World} {L : List HP} (h : SL g L w) (E : TypeId) (sz : Nat) : SL g (ownS E sz (.slice none 0 0) 0 [] :: L) w := by
  obtain ⟨h1, h2, h3, m, hm, hs⟩ := h
  exact ⟨h1, h2, h3, m, hm, fun _ => none, m, ⟨by simp, .inl ⟨rfl, rfl, fun _ => rfl⟩⟩, hs, fun _ => .inl rfl, by rw [join_emp_left]; exact fun _ => rfl⟩

theorem SL.own_some {g w : World} {L : List HP} {b : Nat} {E : TypeId} {vs sp : List Value} {n cap sz : Nat} (h : SL g (row b E (vs ++ sp) :: L) w) (hl : vs.length = n * sz)
    (hn : n ≤ cap) (hm : cap ≤ maxLen) (hs : sp.length = (cap - n) * sz) : SL g (ownS E sz (.slice (some ⟨b, 0, none⟩) n cap) n vs :: L) w :=
  h.mono fun _ hm' => ⟨hl, .inr ⟨b, cap, sp, rfl, hn, hm, hs, hm'⟩⟩

theorem SL.own_cases {g w : World} {L : List HP} {E : TypeId} {sz : Nat} {s : Value} {n : Nat} {vs : List Value} (h : SL g (ownS E sz s n vs :: L) w) :
    vs.length = n * sz ∧ ((s = .slice none 0 0 ∧ n = 0 ∧ SL g L w) ∨
      ∃ b cap sp, s = .slice (some ⟨b, 0, none⟩) n cap ∧ n ≤ cap ∧ cap ≤ maxLen ∧ sp.length = (cap - n) * sz ∧ SL g (row b E (vs ++ sp) :: L) w) := by
  have ht := h.tail
  obtain ⟨h1, h2, h3, m, hm, x, y, ⟨hl, hx⟩, hy, d, rfl⟩ := h
  refine ⟨hl, ?_⟩
  rcases hx with ⟨rfl, rfl, _⟩ | ⟨b, cap, sp, rfl, e1, e2, e3, hr⟩
  · exact .inl ⟨rfl, rfl, ht⟩
  · exact .inr ⟨b, cap, sp, rfl, e1, e2, e3, h1, h2, h3, _, hm, x, y, hr, hy, d, rfl⟩

theorem SL.own_rd {g w : World} {L : List HP} {E : TypeId} {sz : Nat} {s : Value} {n : Nat} {vs : List Value} (h : SL g (ownS E sz s n vs :: L) w) : Rd w sz s n vs := by
  obtain ⟨hl, ⟨rfl, rfl, _⟩ | ⟨b, cap, sp, rfl, _, _, _, hr⟩⟩ := h.own_cases
  · have : vs = [] := by simpa using hl
    subst this
    exact Rd.nil w sz 0
  · refine hr.rd_row (.head _) hl fun j u hu => ?_
    rw [Nat.zero_add]
    have hj := (List.getElem?_eq_some_iff.1 hu).1
    rw [List.getElem?_append_left hj]; exact hu

section
variable {P : Program}

theorem zeroCells_list (z : Array Value) (n : Nat) : (Builtin.zeroCells z n).toList.length = n * z.size := by simp [Builtin.zeroCells]

theorem run_append_grow' (w : World) (t ty e : TypeId) (z : Value) (sz by_ : Nat) (ht : P.underlying t = some (.slice e)) (hE : El P e z sz by_)
    (s x : Value) (sa : Option Addr) (sCap sLen n : Nat) (olds news : List Value) (hs : s = .slice sa sLen sCap) (ho : Rd w sz s sLen olds) (hx : Rd w sz x n news) (hg : sCap < sLen + n)
    (h63 : sLen + n ≤ maxLen) (hfit : (sLen + n) * by_ ≤ 140737488355328) :
    (Builtin.append_ #[t, t] ty #[s, x]).run P w =
      .ok (.slice (some ⟨w.heap.size, 0, none⟩) (sLen + n) (grownCap w (sLen + n) sCap e))
        (w.drew.alloc (.cells ((olds ++ news) ++ (Builtin.zeroCells z.cells (grownCap w (sLen + n) sCap e - (sLen + n))).toList).toArray e)) := by
  obtain ⟨i, hi, hz, rfl, rfl, hzs⟩ := hE
  unfold maxLen at h63
  have hn : ¬ (sLen + n ≤ sCap) := by omega
  have h63' : ¬ (9223372036854775807 < ((sLen : Int) + (n : Int))) := by omega
  have hcap : Builtin.nextslicecap (sLen + n) sCap * i.bytes ≤ 281474976710656 := growslice_fits hg hfit
  have h48' : ¬ (281474976710656 < Builtin.nextslicecap (sLen + n) sCap * i.bytes) := by omega
  have hf := hx.drew.first (P := P)
  have hfo := ho.drew.first (P := P)
  obtain ⟨xa, xc, rfl, _⟩ := hx
  subst hs
  simp [Builtin.append_, run_underlying ht, sizeOf, typeInfo, zeroValue, hi, hz, Builtin.lenOf, hn, h63', h48', Question.forced, hf, hfo, newRow, grownCap]
  congr 2
  apply Array.ext'
  simp

theorem run_append_room' (w : World) (t ty e : TypeId) (z : Value) (sz by_ : Nat) (ht : P.underlying t = some (.slice e)) (hE : El P e z sz by_)
    (x : Value) (b sLen sCap n : Nat) (cs news : List Value) (hb : w.heap[b]? = some (.cells cs.toArray e)) (hx : Rd w sz x n news) (h1 : ∀ u ∈ news, u.oneCell' = true)
    (hroom : sLen + n ≤ sCap) (hfit : sLen * sz + news.length ≤ cs.length) :
    (Builtin.append_ #[t, t] ty #[.slice (some ⟨b, 0, none⟩) sLen sCap, x]).run P w =
      .ok (.slice (some ⟨b, 0, none⟩) (sLen + n) sCap) (w.setRow b (cs.take (sLen * sz) ++ news ++ cs.drop (sLen * sz + news.length)).toArray) := by
  obtain ⟨i, hi, hz, rfl, rfl, hzs⟩ := hE
  have hf := hx.first (P := P)
  have hst := run_storeCells_at P b (sLen * i.size) e news 0 cs.toArray w hb (by simpa using hfit) h1
  simp only [Nat.add_zero] at hst
  obtain ⟨xa, xc, rfl, _⟩ := hx
  simp [Builtin.append_, run_underlying ht, sizeOf, typeInfo, hi, Builtin.lenOf, hroom, hf, Addr.add_lit, hst]

theorem run_append_none (w : World) (t ty e : TypeId) (z : Value) (sz by_ : Nat) (ht : P.underlying t = some (.slice e)) (hE : El P e z sz by_) (x : Value) (news : List Value) (hx : Rd w sz x 0 news) :
    (Builtin.append_ #[t, t] ty #[.slice none 0 0, x]).run P w = .ok (.slice none 0 0) w := by
  obtain ⟨i, hi, hz, rfl, rfl, hzs⟩ := hE
  have hf := hx.first (P := P)
  obtain ⟨xa, xc, rfl, _⟩ := hx
  simp [Builtin.append_, run_underlying ht, sizeOf, typeInfo, hi, Builtin.lenOf, hf]

/-- append to a slice of one's own. -/
theorem SL.append {g w : World} {L : List HP} (t ty e : TypeId) (z : Value) (sz by_ : Nat) (ht : P.underlying t = some (.slice e)) (hE : El P e z sz by_)
    {s x : Value} {n k : Nat} {vs news : List Value} (h : SL g (ownS e sz s n vs :: L) w) (hx : Rd w sz x k news) (h1 : ∀ u ∈ news, u.oneCell' = true)
    (h63 : n + k ≤ maxLen) (hfit : (n + k) * by_ ≤ 140737488355328) :
    ∃ s' w', (Builtin.append_ #[t, t] ty #[s, x]).run P w = .ok s' w' ∧ SL g (ownS e sz s' (n + k) (vs ++ news) :: L) w' ∧ (s' = .slice none 0 0 ↔ s = .slice none 0 0 ∧ k = 0) := by
  have hzs : z.cells.size = sz := by obtain ⟨_, _, _, _, _, h⟩ := hE; exact h
  have hxl : news.length = k * sz := by obtain ⟨_, _, _, h, _⟩ := hx; exact h
  have ho := h.own_rd
  have grow : ∀ (sa : Option Addr) (sCap : Nat), s = .slice sa n sCap → sCap < n + k → SL g L w →
      ∃ s' w', (Builtin.append_ #[t, t] ty #[s, x]).run P w = .ok s' w' ∧ SL g (ownS e sz s' (n + k) (vs ++ news) :: L) w' ∧ (s' = .slice none 0 0 ↔ s = .slice none 0 0 ∧ k = 0) := by
    intro sa sCap hs hlt hL
    refine ⟨_, _, run_append_grow' w t ty e z sz by_ ht hE s x sa sCap n k vs news hs ho hx hlt h63 hfit, ?_, ?_⟩
    · refine SL.own_some (sp := (Builtin.zeroCells z.cells (grownCap w (n + k) sCap e - (n + k))).toList) (hL.drew.alloc _) ?_ (grownCap_ge _ _ _ _) (grownCap_le_maxLen _ _ _ _ h63) ?_
      · rw [List.length_append, ho.choose_spec.choose_spec.2.1, hxl, Nat.add_mul]
      · rw [zeroCells_list, hzs]
    · constructor
      · intro h; cases h
      · rintro ⟨e1, rfl⟩; rw [hs] at e1; cases e1; omega
  obtain ⟨hl, ⟨rfl, rfl, hL⟩ | ⟨b, cap, sp, rfl, hn, hm, hsp, hr⟩⟩ := h.own_cases
  · by_cases hk : k = 0
    · subst hk
      refine ⟨_, _, run_append_none w t ty e z sz by_ ht hE x news hx, ?_, by simp⟩
      have e1 : vs = [] := by simpa using hl
      have e2 : news = [] := by simpa using hxl
      subst e1; subst e2
      exact hL.own_nil e sz
    · exact grow none 0 rfl (by omega) hL
  · by_cases hroom : n + k ≤ cap
    · have hfit' : n * sz + news.length ≤ (vs ++ sp).length := by
        rw [List.length_append, hl, hsp, hxl, ← Nat.add_mul, ← Nat.add_mul]
        exact Nat.mul_le_mul_right _ (by omega)
      refine ⟨_, _, run_append_room' w t ty e z sz by_ ht hE x b n cap k (vs ++ sp) news (hr.get (.head _)) hx h1 hroom hfit', ?_, by simp⟩
      have e1 : (vs ++ sp).take (n * sz) ++ news ++ (vs ++ sp).drop (n * sz + news.length) = (vs ++ news) ++ sp.drop news.length := by
        rw [← hl, List.take_left', List.drop_append]; simp; rfl
      rw [e1]
      refine SL.own_some (hr.setRow _) ?_ hroom hm ?_
      · rw [List.length_append, hl, hxl, Nat.add_mul]
      · rw [List.length_drop, hsp, hxl, ← Nat.sub_mul]; congr 1; omega
    · exact grow _ cap rfl (by omega) hr.tail

theorem SL.make {g w : World} {L : List HP} (h : SL g L w) (t e : TypeId) (z : Value) (sz by_ : Nat) (ht : P.underlying t = some (.slice e)) (hE : El P e z sz by_)
    (kl kc : IntKind) (l c : Int) (h0 : 0 ≤ l) (hlc : l ≤ c) (hbytes : (by_ : Int) * c ≤ 281474976710656) (h63 : c ≤ maxLen) :
    ∃ b w', (Instr.makeSlice t (.int kl l) (.int kc c)).run P w = .ok (.slice (some ⟨b, 0, none⟩) l.toNat c.toNat) w' ∧ SL g (row b e (madeCells z.cells (c.toNat * sz)).toList :: L) w' := by
  obtain ⟨i, hi, hz, rfl, rfl, hzs⟩ := hE
  refine ⟨_, _, run_make w t e i z ht hi hz kl kc l c h0 hlc hbytes (by unfold maxLen at h63; omega), ?_⟩
  have := h.alloc (.cells (madeCells z.cells (c.toNat * i.size)) e)
  simpa [row] using this

theorem run_loadVar_one (w : World) (t : TypeId) (d : TypeDesc) (hu : P.underlying t = some d) (hd : (match d with | .struct _ | .array _ _ => false | _ => true) = true) (a : Addr) (v : Value) (h : w.cell? a = some v) :
    (loadVar t a).run P w = .ok v w := by
  have : (isAgg t).run P w = .ok false w := by
    simp only [isAgg, Sem.run_bind, run_underlying hu, Result.andThen_ok]
    cases d <;> simp at hd <;> rfl
  simp [loadVar, this, h]

theorem run_loadVar_agg (w : World) (t : TypeId) (d : TypeDesc) (z : Value) (by_ sz : Nat) (hu : P.underlying t = some d) (hd : (match d with | .struct _ | .array _ _ => true | _ => false) = true) (hE : El P t z sz by_) (a : Addr) (vs : List Value)
    (hl : vs.length = sz) (h : ∀ j v, vs[j]? = some v → w.cell? (a.add j) = some v) :
    (loadVar t a).run P w = .ok (.agg vs.toArray) w := by
  obtain ⟨i, hi, hz, rfl, rfl, hzs⟩ := hE
  have h1 : (isAgg t).run P w = .ok true w := by
    simp only [isAgg, Sem.run_bind, run_underlying hu, Result.andThen_ok]
    cases d <;> simp at hd <;> rfl
  have := run_loadCells_list (P := P) w a vs h
  rw [hl] at this
  simp [loadVar, h1, sizeOf, typeInfo, hi, this]

theorem SL.storeOne {g w : World} {L : List HP} (t : TypeId) (z : Value) (by_ : Nat) (hE : El P t z 1 by_) {b o : Nat} {E' : TypeId} {cs : List Value} (h : SL g (row b E' cs :: L) w) (v : Value) (hv : v.oneCell' = true) (ho : o < cs.length) :
    ∃ w', (storeVar t ⟨b, o, none⟩ v).run P w = .ok () w' ∧ SL g (row b E' (cs.set o v) :: L) w' := by
  obtain ⟨i, hi, hz, hsz, rfl, hzs⟩ := hE
  have hc : w.cell? ⟨b, o, none⟩ = some cs[o] := by rw [h.cell (.head _), List.getElem?_eq_getElem ho]
  refine ⟨_, ?_, h.setCell (i := o) v⟩
  have hcv : v.cells = #[v] := by cases v <;> simp [Value.oneCell'] at hv <;> rfl
  have hfr := h.frozen (b := b) (E := E') (cs := cs) (.head _) o
  simp [storeVar, sizeOf, typeInfo, hi, hsz, hcv, storeCells, run_store _ _ _ _ _ hv, Addr.add_lit, hc, hfr]

theorem SL.storeAgg {g w : World} {L : List HP} (t : TypeId) (z : Value) (sz by_ : Nat) (hE : El P t z sz by_) {b o : Nat} {E' : TypeId} {cs : List Value} (h : SL g (row b E' cs :: L) w) (vs : List Value) (hl : vs.length = sz)
    (hv : ∀ v ∈ vs, v.oneCell' = true) (ho : o + sz ≤ cs.length) :
    ∃ w', (storeVar t ⟨b, o, none⟩ (.agg vs.toArray)).run P w = .ok () w' ∧ SL g (row b E' (cs.take o ++ vs ++ cs.drop (o + sz)) :: L) w' := by
  obtain ⟨i, hi, hz, rfl, rfl, hzs⟩ := hE
  have hst := run_storeCells_at P b o E' vs 0 cs.toArray w (h.get (.head _)) (by simp only [Nat.add_zero, List.size_toArray]; omega) hv
  simp only [Nat.add_zero] at hst
  refine ⟨_, ?_, h.setRow _⟩
  simp [storeVar, sizeOf, typeInfo, hi, Value.cells, hl, hst]
end
end Go.Sl

/- The walk's arms over separation lists: one operation each, at 'wpList' and at 'Oper.wp'. Over any program. -/
namespace Go.Sl
open Go

section
variable {P : Program} {Q : Exit → Act → World → Prop} {w g : World} {K : Act → World → Prop}

/-- One operation that yields a value. -/
theorem op_value {o : Oper} {a : Act} {w' : World} {v : Value} (h : (execOp a.eval o).run P w = .ok (.value v) w') (hk : K (a.put o.dst v) w') : o.wp P a w K Q := by
  unfold Oper.wp; rw [h]; exact hk

theorem op_skip {o : Oper} {a : Act} {w' : World} (h : (execOp a.eval o).run P w = .ok .skip w') (hk : K (a.put o.dst undef) w') : o.wp P a w K Q := by
  unfold Oper.wp; rw [h]; exact hk

/-- What an operand is in a frame that is written out. -/
def ev (l : List Value) : Operand → Value
  | .tmp t => (nth l t).getD undef
  | .const v => v
  | .global g => .pointer (some ⟨g, 0, none⟩)
  | .func f => .func (.func f) #[] #[]

theorem ev_eq (l : List Value) (ds : List Deferred) (x : Operand) : (Act.mk l.toArray ds).eval x = ev l x := by
  cases x <;> simp [Act.eval, ev, nth_eq]

theorem put_eq (l : List Value) (ds : List Deferred) (d : Nat) (v : Value) : (Act.mk l.toArray ds).put (some d) v = Act.mk (l.set d v).toArray ds := by
  simp [Act.put]

/-- Does a value of this type take one cell, written as itself? -/
def one (P : Program) (t : TypeId) : Bool := match P.underlying t with
  | some (.struct _) | some (.array _ _) | none => false
  | _ => true

theorem one_load (w : World) (t : TypeId) (ht : one P t = true) (a : Addr) (v : Value) (h : w.cell? a = some v) : (loadVar t a).run P w = .ok v w := by
  unfold one at ht
  cases hu : P.underlying t with
  | none => simp [hu] at ht
  | some d => exact run_loadVar_one w t d hu (by cases d <;> simp [hu] at ht <;> rfl) a v h

theorem exec_load (ρ : Operand → Value) {dst : Option Tmp} {t ty : TypeId} {x : Operand} {pos : String} {after : Array Edge} {gd : Option (Nat × Bool)} {a : Addr} {v : Value} {w' : World}
    (hx : ρ x = .pointer (some a)) (h : (loadVar t a).run P w = .ok v w') : (execOp ρ { dst, op := .load t x, type := ty, pos, after, guard := gd }).run P w = .ok (.value v) w' := by
  simp [execOp, Instr.loadAt, hx, Instr.sureAddr, h]

theorem exec_store (ρ : Operand → Value) {dst : Option Tmp} {t ty : TypeId} {x y : Operand} {pos : String} {after : Array Edge} {gd : Option (Nat × Bool)} {a : Addr} {v : Value} {w' : World}
    (hx : ρ x = .pointer (some a)) (hy : ρ y = v) (h : (storeVar t a v).run P w = .ok () w') : (execOp ρ { dst, op := .store t x y, type := ty, pos, after, guard := gd }).run P w = .ok .skip w' := by
  simp [execOp, Instr.storeAt, hx, hy, Instr.sureAddr, h]

def aggTy (P : Program) (t : TypeId) : Bool := match P.underlying t with
  | some (.struct _) | some (.array _ _) => true
  | _ => false

theorem agg_load (w : World) (t : TypeId) {z : Value} {sz by_ : Nat} (hE : El P t z sz by_) (ht : aggTy P t = true) (a : Addr) (vs : List Value) (hl : vs.length = sz) (h : ∀ j v, vs[j]? = some v → w.cell? (a.add j) = some v) :
    (loadVar t a).run P w = .ok (.agg vs.toArray) w := by
  unfold aggTy at ht
  cases hu : P.underlying t with
  | none => simp [hu] at ht
  | some d => exact run_loadVar_agg w t d z by_ sz hu (by cases d <;> simp [hu] at ht <;> rfl) hE a vs hl h

theorem exec_box (ρ : Operand → Value) {dst : Option Tmp} {t ty : TypeId} {x : Operand} {pos : String} {after : Array Edge} {gd : Option (Nat × Bool)} :
    (execOp ρ { dst, op := .box t x, type := ty, pos, after, guard := gd }).run P w = .ok (.value (.pointer (some ⟨w.heap.size, 0, none⟩))) (w.alloc (.cells (ρ x).cells t)) := by
  simp [execOp, Instr.box, newVar, newRow]

theorem exec_alloc (ρ : Operand → Value) {dst : Option Tmp} {t ty : TypeId} {pos : String} {after : Array Edge} {gd : Option (Nat × Bool)} {z : Value} {sz by_ : Nat} (hE : El P t z sz by_) :
    (execOp ρ { dst, op := .alloc t, type := ty, pos, after, guard := gd }).run P w = .ok (.value (.pointer (some ⟨w.heap.size, 0, none⟩))) (w.alloc (.cells z.cells t)) := by
  obtain ⟨i, hi, hz, rfl, rfl, hzs⟩ := hE
  simp [execOp, Instr.alloc, zeroValue, typeInfo, hi, hz, newVar, newRow]

theorem exec_make (ρ : Operand → Value) {dst : Option Tmp} {t ty : TypeId} {x y : Operand} {pos : String} {after : Array Edge} {gd : Option (Nat × Bool)} {v : Value} {w' : World}
    (h : (Instr.makeSlice t (ρ x) (ρ y)).run P w = .ok v w') : (execOp ρ { dst, op := .makeSlice t x y, type := ty, pos, after, guard := gd }).run P w = .ok (.value v) w' := by
  simp [execOp, h]

theorem fold_set (off : Nat) : ∀ (vs : List Value) (k : Nat) (cells : Array Value), off + k + vs.length ≤ cells.size →
    ((vs.zipIdx k).foldl (fun cs x => cs.setIfInBounds (off + x.2) x.1) cells) = (cells.toList.take (off + k) ++ vs ++ cells.toList.drop (off + k + vs.length)).toArray
  | [], k, cells, _ => by simp
  | v :: vs, k, cells, h => by
    simp only [List.zipIdx_cons, List.foldl_cons]
    simp only [List.length_cons] at h
    rw [fold_set off vs (k + 1) _ (by simp; omega)]
    have e1 : off + (k + 1) = (off + k) + 1 := by omega
    rw [e1]
    simp only [Array.toList_setIfInBounds, List.length_cons]
    congr 1
    rw [List.drop_set_of_lt (by omega), List.take_set, List.take_add_one]
    rw [List.set_append_right _ _ (by simp; omega)]
    have hlt : off + k < cells.toList.length := by simp; omega
    simp only [List.getElem?_eq_getElem hlt, Option.toList_some, List.length_take]
    rw [Nat.min_eq_left (by omega), Nat.sub_self]
    simp [Nat.add_assoc, Nat.add_comm 1]

theorem fill_all (sz : Nat) : ∀ (vs : List Value) (k : Nat) (cells : Array Value), cells.size = (k + vs.length) * sz → (∀ v ∈ vs, v.cells.size = sz) →
    Instr.fill (fun i => some (i * sz, sz)) cells ((vs.zipIdx k).map fun x => (x.2, x.1)) = some (cells.toList.take (k * sz) ++ vs.flatMap (·.cells.toList)).toArray
  | [], k, cells, h, _ => by simp [Instr.fill]; rw [List.take_of_length_le (by simp [h])]
  | v :: vs, k, cells, h, h1 => by
    have hv := h1 v (.head _)
    simp only [List.length_cons] at h
    have hle : k * sz + sz ≤ cells.size := by
      rw [h, ← Nat.succ_mul]; exact Nat.mul_le_mul_right _ (by omega)
    simp only [List.zipIdx_cons, List.map_cons, Instr.fill]
    rw [if_neg (by simp [hv]; omega)]
    have hf := fold_set (k * sz) v.cells.toList 0 cells (by simp [hv]; omega)
    have hz : Array.foldl (fun cs x => cs.setIfInBounds (k * sz + x.2) x.1) cells v.cells.zipIdx = (cells.toList.take (k * sz) ++ v.cells.toList ++ cells.toList.drop (k * sz + sz)).toArray := by
      rw [← Array.foldl_toList, Array.toList_zipIdx]
      simpa [hv] using hf
    have hlen : (cells.toList.take (k * sz) ++ v.cells.toList ++ cells.toList.drop (k * sz + sz)).length = cells.size := by
      simp [hv]; omega
    have := fill_all sz vs (k + 1) (cells.toList.take (k * sz) ++ v.cells.toList ++ cells.toList.drop (k * sz + sz)).toArray
      (by rw [List.size_toArray, hlen, h]; congr 1; omega) (fun x hx => h1 x (.tail _ hx))
    rw [show (fun cs (x : Value × Nat) => match x with | (c, j) => cs.setIfInBounds (k * sz + j) c) = (fun (cs : Array Value) (x : Value × Nat) => cs.setIfInBounds (k * sz + x.2) x.1) from rfl, hz, this]
    congr 2
    have hk : (k + 1) * sz = (cells.toList.take (k * sz) ++ v.cells.toList).length := by simp [hv, Nat.succ_mul]; omega
    simp only
    rw [hk, List.take_left']
    · simp
    · rfl

theorem exec_bs (ρ : Operand → Value) {dst : Option Tmp} {t e ty : TypeId} {len : Nat} {ps : List (Nat × Operand)} {pos : String} {after : Array Edge} {gd : Option (Nat × Bool)} {z : Value} {sz by_ : Nat} {vs : List Value}
    (hE : El P e z sz by_) (hu : P.underlying t = some (.slice e)) (hlen : len * sz ≤ 16777216) (hn : vs.length = len) (hp : (ps.map fun x => (x.1, ρ x.2)) = vs.zipIdx.map fun x => (x.2, x.1)) (hv : ∀ v ∈ vs, v.cells.size = sz) :
    (execOp ρ { dst, op := .buildSlice t len ps.toArray, type := ty, pos, after, guard := gd }).run P w = .ok (.value (.slice (some ⟨w.heap.size, 0, none⟩) len len)) (w.alloc (.cells (vs.flatMap (·.cells.toList)).toArray e)) := by
  obtain ⟨i, hi, hz, rfl, rfl, hzs⟩ := hE
  have hn2 : ¬ (16777216 < len * i.size) := by omega
  have hf := fun c hc => fill_all i.size vs 0 c hc hv
  simp only [Nat.zero_add, hn] at hf
  have hps : (Array.map (fun x : Nat × Operand => (x.1, ρ x.2)) ps.toArray).toList = vs.zipIdx.map fun x => (x.2, x.1) := by simp [← hp]
  have hps' : (Array.map (fun x : Nat × Operand => match x with | (i, x) => (i, ρ x)) ps.toArray).toList = vs.zipIdx.map fun x => (x.2, x.1) := hps
  simp only [execOp, Instr.buildSlice]
  rw [hps']
  by_cases h0 : len * i.size = 0
  · have := hf #[] (by simp [h0])
    simp only [List.take_nil, List.nil_append] at this
    have e0 : (Array.map (fun _ : Nat => (default : Value)) (Array.range 0)) = #[] := by simp [Array.range]
    rw [← e0] at this
    simp [run_underlying hu, sizeOf, typeInfo, hi, h0, this, newRow]
  · have := hf ((Array.range (len * i.size)).map (z.cells[· % z.cells.size]!)) (by simp)
    simp only [Nat.zero_mul, List.take_zero, List.nil_append] at this
    simp [run_underlying hu, sizeOf, typeInfo, zeroValue, hi, hz, h0, hn2, this, newRow]

theorem w_bs {L : List HP} {l : List Value} {ds : List Deferred} {d : Nat} {t e ty : TypeId} {len : Nat} {ps : List (Nat × Operand)} {pos : String} {after : Array Edge} {gd : Option (Nat × Bool)} {z : Value} {sz by_ : Nat}
    (hE : El P e z sz by_) (hu : P.underlying t = some (.slice e)) (hS : SL g L w) (hlen : len * sz ≤ 16777216) (hn : ps.length = len) (hi : ps.map (·.1) = List.range ps.length) (hv : (ps.map fun x => ev l x.2).all (fun v => v.cells.size == sz) = true)
    (hk : ∀ b w', SL g (row b e ((ps.map fun x => ev l x.2).flatMap (·.cells.toList)) :: L) w' → ∀ l', l.set d (.slice (some ⟨b, 0, none⟩) len len) = l' → K (Act.mk l'.toArray ds) w') : Oper.wp P ({ dst := some d, op := .buildSlice t len ps.toArray, type := ty, pos, after, guard := gd } : Oper) (Act.mk l.toArray ds) w K Q := by
  refine op_value (exec_bs _ hE hu hlen (vs := ps.map fun x => ev l x.2) (by simpa using hn) ?_ (fun v hv' => by simpa using List.all_eq_true.1 hv v hv')) ?_
  · apply List.ext_getElem?
    intro k
    have h2 := congrArg (·[k]?) hi
    simp only [List.getElem?_map, List.getElem?_zipIdx] at h2 ⊢
    cases hk : ps[k]? with
    | none => simp
    | some x =>
      have hlt := (List.getElem?_eq_some_iff.1 hk).1
      simp [hk, List.getElem?_range hlt] at h2
      simp [ev_eq, h2]
  · rw [put_eq]
    exact (hk _ _ (hS.alloc _) _ rfl)

theorem exec_append (ρ : Operand → Value) {dst : Option Tmp} {ats : Array TypeId} {ty : TypeId} {x y : Operand} {pos : String} {after : Array Edge} {gd : Option (Nat × Bool)} {v : Value} {w' : World}
    (h : (Builtin.append_ ats ty #[ρ x, ρ y]).run P w = .ok v w') :
    (execOp ρ { dst, op := .call { callee := .builtin .append, args := #[x, y], argTypes := ats }, type := ty, pos, after, guard := gd }).run P w = .ok (.value v) w' := by
  rw [BigFrame.execOp_builtin, BigFrame.builtin_append]
  simp [h]

/-! ### steps of a plan -/
section
variable {S : World → Prop} {T : Nat → Bool} {Q0 : Act → World → Prop} {l : List Oper} {eff : Nat → Bool} {rest : List Nat} {i : Nat} {o : Oper}

/-- Operations that only reckon or read. -/
def quietOp (o : Oper) : Bool := match o.op with
  | .move _ | .assign _ | .pick .. | .load .. | .nilCheck _ | .fieldAddr .. | .field .. | .indexAddr .. | .index .. | .slice .. | .binOp .. | .unOp .. | .convert .. | .extract .. | .build .. => true
  | .call { callee := .builtin .len, .. } | .call { callee := .builtin .cap, .. } | .call { callee := .builtin .min, .. } | .call { callee := .builtin .max, .. } => true
  | _ => false

def onlyValue : Result Next → Prop
  | .ok (.value _) _ | .halt .. => True
  | _ => False

end
end
end Go.Sl

/- Symbolic running of a function's code over separation lists: the machine's own steps. Over any program. -/
namespace Go.Xg
open Go Go.Sl
set_option linter.unusedVariables false

def base (f : FuncId) : Frame := { (default : Frame) with fn := f, kind := .normal }
def act (T : List Value) : Act := ⟨T.toArray, []⟩

/-- From here on the function ends as 'R' says. -/
structure At (P : Program) (f : FuncId) (g : World) (F : List HP) (R : Ending → World → Prop) (k : List Item) (T : List Value) (L : List HP) : Prop where
  run : ∀ w, SL g (L ++ F) w → ∀ cs, ∃ e w' fr, R e w' ∧ Comes P (lone ((base f).at (act T) k) cs w) (lone fr cs w') e ∧ fr.fn = f ∧ fr.leaving P w' e

/-- What a function does: its cells before, its value and its cells behind. -/
def RPost (g : World) (F : List HP) (post : Value → List HP → Prop) : Ending → World → Prop :=
  fun e w' => ∃ v ps, post v ps ∧ e = .returned v ∧ SL g (ps ++ F) w'

structure Does (P : Program) (f : FuncId) (args : List Value) (pre : List HP) (post : Value → List HP → Prop) : Prop where
  run : ∀ (g : World) (F : List HP) (w : World), SL g (pre ++ F) w → Calls P f args.toArray w (RPost g F post)

section
variable {P : Program} {f : FuncId} {g : World} {F : List HP} {R : Ending → World → Prop} {k k' : List Item} {T T' : List Value} {L L' : List HP}

theorem At.go (hs : ∀ w cs, step P (lone ((base f).at (act T) k) cs w) = .next (lone ((base f).at (act T') k') cs w)) (h : At P f g F R k' T' L) : At P f g F R k T L :=
  ⟨fun w hS cs => let ⟨e, w', fr, hR, hc, hf, hl⟩ := h.run w hS cs; ⟨e, w', fr, hR, Comes.of_steps (.one (hs w cs)) hc, hf, hl⟩⟩

theorem At.sl (hs : ∀ w, SL g (L ++ F) w → SL g (L' ++ F) w) (h : At P f g F R k T L') : At P f g F R k T L := ⟨fun w hS => h.run w (hs w hS)⟩

theorem at_seq {x y : Code} (h : At P f g F R (.code x :: .code y :: k) T L) : At P f g F R (.code (.seq x y) :: k) T L := h.go fun _ _ => step_seq
theorem at_skip (h : At P f g F R k T L) : At P f g F R (.code .skip :: k) T L := h.go fun _ _ => step_skip
theorem at_block {id : Nat} {c : Code} (h : At P f g F R (.code c :: .inBlock id :: k) T L) : At P f g F R (.code (.block id c) :: k) T L := h.go fun _ _ => step_block
theorem at_inBlock {id : Nat} (h : At P f g F R k T L) : At P f g F R (.inBlock id :: k) T L := h.go fun _ _ => step_inBlock
theorem at_loop {c : Code} (h : At P f g F R (.code c :: .inLoop c :: k) T L) : At P f g F R (.code (.loop c) :: k) T L := h.go fun _ _ => step_loop
theorem at_inLoop {c : Code} (h : At P f g F R (.code c :: .inLoop c :: k) T L) : At P f g F R (.inLoop c :: k) T L := h.go fun _ _ => step_inLoop
theorem at_exit {id : Nat} (hk : exitTo id k = some k') (h : At P f g F R k' T L) : At P f g F R (.code (.exit id) :: k) T L := h.go fun _ _ => step_exit hk

theorem act_eval (T : List Value) (x : Operand) : (act T).eval x = ev T x := ev_eq T [] x

theorem at_cond {c : Operand} {x y : Code} {t : Bool} (hc : ev T c = .bool t) (h1 : t = true → At P f g F R (.code x :: k) T L) (h0 : t = false → At P f g F R (.code y :: k) T L) :
    At P f g F R (.code (.cond c x y) :: k) T L := by
  cases t with
  | true => exact (h1 rfl).go fun _ _ => step_cond (t := true) (by rw [act_eval]; exact hc)
  | false => exact (h0 rfl).go fun _ _ => step_cond (t := false) (by rw [act_eval]; exact hc)

theorem at_true {c : Operand} {x y : Code} {t : Bool} (hc : ev T c = .bool t) (ht : t = true) (h : At P f g F R (.code x :: k) T L) : At P f g F R (.code (.cond c x y) :: k) T L :=
  at_cond hc (fun _ => h) fun h0 => by rw [ht] at h0; cases h0
theorem at_false {c : Operand} {x y : Code} {t : Bool} (hc : ev T c = .bool t) (ht : t = false) (h : At P f g F R (.code y :: k) T L) : At P f g F R (.code (.cond c x y) :: k) T L :=
  at_cond hc (fun h0 => by rw [ht] at h0; cases h0) fun _ => h
theorem at_dec {c : Operand} {x y : Code} {p : Prop} [inst : Decidable p] (hc : ev T c = .bool (decide p)) (h1 : p → At P f g F R (.code x :: k) T L) (h0 : ¬ p → At P f g F R (.code y :: k) T L) :
    At P f g F R (.code (.cond c x y) :: k) T L :=
  at_cond hc (fun h => h1 (of_decide_eq_true h)) fun h => h0 (of_decide_eq_false h)

theorem leaves {fn : Func} {v : Value} {w : World} {todo : List Item} (hf : P.funcs[f]? = some fn) (hr : (results fn T.toArray).run P w = .ok v w) :
    ({ (base f).at (act T) todo with mode := .returning } : Frame).leaving P w (.returned v) := ⟨rfl, rfl, rfl, fn, hf, hr⟩

theorem at_ret {fn : Func} {v : Value} (hf : P.funcs[f]? = some fn) (hr : ∀ w, SL g (L ++ F) w → (results fn T.toArray).run P w = .ok v w) (h : ∀ w, SL g (L ++ F) w → R (.returned v) w) :
    At P f g F R (.code .ret :: k) T L :=
  ⟨fun w hS cs => ⟨.returned v, w, _, h w hS, .one step_ret, rfl, leaves hf (hr w hS)⟩⟩
theorem at_end {fn : Func} {v : Value} (hf : P.funcs[f]? = some fn) (hr : ∀ w, SL g (L ++ F) w → (results fn T.toArray).run P w = .ok v w) (h : ∀ w, SL g (L ++ F) w → R (.returned v) w) :
    At P f g F R [] T L :=
  ⟨fun w hS cs => ⟨.returned v, w, _, h w hS, .one step_end, rfl, leaves hf (hr w hS)⟩⟩

theorem calls_of {fn : Func} {c : Code} {args : List Value} {n : Nat} (hf : P.funcs[f]? = some fn) (hb : fn.body = some c) (hn : fn.ntmps = n)
    (h : At P f g F R [.code c] (args ++ List.replicate (n - args.length) undef) L) {w : World} (hS : SL g (L ++ F) w) : Calls P f args.toArray w R := by
  intro cs
  have henter : Frame.enter P f args.toArray .normal = (base f).at (act (args ++ List.replicate (n - args.length) undef)) [.code c] := by
    simp [Frame.enter, Frame.at, hf, hb, base, act, hn]
  rw [henter]
  exact h.run w hS cs

theorem spec_of {fn : Func} {c : Code} {args : List Value} {n : Nat} {pre : List HP} {post : Value → List HP → Prop} (hf : P.funcs[f]? = some fn) (hb : fn.body = some c) (hn : fn.ntmps = n)
    (h : ∀ g F, At P f g F (RPost g F post) [.code c] (args ++ List.replicate (n - args.length) undef) pre) : Does P f args pre post :=
  ⟨fun g F _ hS => calls_of hf hb hn (h g F) hS⟩

/-! ### operations -/

def RQ (g : World) (F : List HP) (K : List Value → List HP → Prop) : Exit → Act → World → Prop :=
  fun e a w => e = .normal ∧ ∃ T' L', a = act T' ∧ SL g (L' ++ F) w ∧ K T' L'

def OK1 (g : World) (F : List HP) (K : List Value → List HP → Prop) : Act → World → Prop := fun a w => ∃ T' L', a = act T' ∧ SL g (L' ++ F) w ∧ K T' L'

/-- One operation. -/
structure OpX (P : Program) (g : World) (F : List HP) (o : Oper) (T : List Value) (L : List HP) (K : List Value → List HP → Prop) : Prop where
  run : ∀ w, SL g (L ++ F) w → o.wp P (act T) w (OK1 g F K) NoQ

/-- The operations of a region that are left, in this order. -/
structure Ops (P : Program) (g : World) (F : List HP) (all : List Oper) (K : List Value → List HP → Prop) (rem : List Oper) (T : List Value) (L : List HP) : Prop where
  run : ∀ w, SL g (L ++ F) w → wpList P all.toArray (RQ g F K) rem (act T) w

variable {all rem l : List Oper} {o : Oper} {K K' : List Value → List HP → Prop}

theorem at_region {id : Nat} (h : Ops P g F l (fun T' L' => At P f g F R k T' L') l T L) : At P f g F R (.code (.region id l.toArray false) :: k) T L := by
  constructor
  intro w hS cs
  obtain ⟨e, a', w', ⟨rfl, T', L', rfl, hS', hk⟩, harr⟩ := wp_region_lit (id := id) (h.run w hS) (base f) k cs
  obtain ⟨e, w2, fr, hR, hc, hf, hl⟩ := hk.run w' hS' cs
  exact ⟨e, w2, fr, hR, Comes.of_steps harr hc, hf, hl⟩

theorem ops_nil (h : K T L) : Ops P g F all K [] T L := ⟨fun w hS => ⟨rfl, T, L, rfl, hS, h⟩⟩

theorem ops_op (hw : Region.wanted o (yielded all.toArray T.toArray) = true) (h : OpX P g F o T L (fun T' L' => Ops P g F all K rem T' L')) : Ops P g F all K (o :: rem) T L := by
  constructor
  intro w hS
  unfold wpList
  rw [if_pos (by exact hw)]
  refine .inl (wp_weak (fun _ _ _ h => h.elim) (Oper.wp_mono ?_ (h.run w hS)))
  rintro a w ⟨T', L', rfl, hS', h'⟩
  exact h'.run w hS'

def putD (d : Option Nat) (v : Value) (T : List Value) : List Value := match d with
  | some d => T.set d v
  | none => T

theorem act_put (d : Option Nat) (v : Value) (T : List Value) : (act T).put d v = act (putD d v T) := by
  cases d <;> simp [act, Act.put, putD]

theorem ops_skip (hw : Region.wanted o (yielded all.toArray T.toArray) = false) (h : Ops P g F all K rem (putD o.dst undef T) L) : Ops P g F all K (o :: rem) T L := by
  constructor
  intro w hS
  unfold wpList
  rw [if_neg (by show ¬ Region.wanted o (yielded all.toArray T.toArray) = true; rw [hw]; simp), act_put]
  exact h.run w hS

theorem opx_val {d : Nat} (v : Value) (hd : o.dst = some d) (he : ∀ w, SL g (L ++ F) w → (execOp (act T).eval o).run P w = .ok (.value v) w) (h : K (T.set d v) L) : OpX P g F o T L K :=
  ⟨fun w hS => op_value (he w hS) ⟨T.set d v, L, by rw [act_put, hd]; rfl, hS, h⟩⟩

/-- An operation that only reckons. -/
theorem opx_pure {d : Nat} (v : Value) (hd : o.dst = some d) (he : ∀ w, (execOp (act T).eval o).run P w = .ok (.value v) w) (h : K (T.set d v) L) : OpX P g F o T L K :=
  opx_val v hd (fun w _ => he w) h

/-- .. an integer, by an equation. -/
theorem opx_int {d : Nat} (kd : IntKind) (e : Int) {e' : Int} (hd : o.dst = some d) (he : ∀ w, (execOp (act T).eval o).run P w = .ok (.value (.int kd e)) w) (hb : e = e') (h : K (T.set d (.int kd e')) L) : OpX P g F o T L K := by
  subst hb; exact opx_pure _ hd he h

/-- A flag is parted. -/
theorem ops_flag {j : Nat} {c : Bool} (hj : nth T j = some (.bool c)) (h1 : c = true → Ops P g F all K rem (T.set j (.bool true)) L) (h0 : c = false → Ops P g F all K rem (T.set j (.bool false)) L) : Ops P g F all K rem T L := by
  have hs : T.set j (.bool c) = T := by
    rw [nth_eq] at hj
    obtain ⟨hlt, e⟩ := List.getElem?_eq_some_iff.1 hj
    rw [← e]; simp
  cases c with
  | true => have := h1 rfl; rwa [hs] at this
  | false => have := h0 rfl; rwa [hs] at this

/-! ### memory -/

theorem sl_nth {w : World} {i b : Nat} {E : TypeId} {cs : List Value} (hL : nth L i = some (row b E cs)) : row b E cs ∈ L ++ F :=
  List.mem_append_left _ (List.mem_of_getElem? (by rw [← nth_eq]; exact hL))

theorem opx_load {d : Nat} {t ty : TypeId} {x : Operand} {pos : String} {after : Array Edge} {gd : Option (Nat × Bool)} {b off : Nat} {E : TypeId} {cs : List Value} (i : Nat) (v : Value)
    (hL : nth L i = some (row b E cs)) (hx : ev T x = .pointer (some ⟨b, off, none⟩)) (hc : cs[off]? = some v) (ht : one P t = true)
    (h : K (T.set d v) L) : OpX P g F { dst := some d, op := .load t x, type := ty, pos, after, guard := gd } T L K :=
  (opx_val v rfl (fun w hS => exec_load _ (by rw [act_eval]; exact hx) (one_load w t ht _ v (by rw [hS.cell (b := b) (E := E) (cs := cs) (sl_nth (w := w) hL)]; exact hc))) h)

theorem opx_loada {d : Nat} {t ty : TypeId} {x : Operand} {pos : String} {after : Array Edge} {gd : Option (Nat × Bool)} {b off : Nat} {E : TypeId} {cs : List Value} {z : Value} {sz by_ : Nat} (i : Nat) (vs : List Value)
    (hE : El P t z sz by_) (hL : nth L i = some (row b E cs)) (hx : ev T x = .pointer (some ⟨b, off, none⟩)) (hl : vs.length = sz) (hc : ∀ j v, vs[j]? = some v → cs[off + j]? = some v) (ht : aggTy P t = true)
    (h : K (T.set d (.agg vs.toArray)) L) : OpX P g F { dst := some d, op := .load t x, type := ty, pos, after, guard := gd } T L K :=
  (opx_val _ rfl (fun w hS => exec_load _ (by rw [act_eval]; exact hx) (agg_load w t hE ht _ vs hl fun j v hv => by
    rw [Addr.add_lit, hS.cell (b := b) (E := E) (cs := cs) (sl_nth (w := w) hL)]; exact hc j v hv)) h)

theorem cons_erase {α : Type _} {l : List α} {i : Nat} (h : i < l.length) : (l[i] :: l.eraseIdx i).Perm l := by
  rw [List.eraseIdx_eq_take_drop_succ]
  refine List.perm_middle.symm.trans ?_
  rw [List.getElem_cons_drop, List.take_append_drop]

theorem sl_at (i : Nat) {A : HP} (hL : nth L i = some A) {w : World} (hS : SL g (L ++ F) w) : SL g (A :: (L.eraseIdx i ++ F)) w := by
  rw [nth_eq] at hL
  refine hS.perm ?_
  obtain ⟨hlt, rfl⟩ := List.getElem?_eq_some_iff.1 hL
  exact (cons_erase hlt).symm.append_right F

theorem sl_back (i : Nat) {A B : HP} (hL : nth L i = some A) {w : World} (hS : SL g (B :: (L.eraseIdx i ++ F)) w) : SL g (L.set i B ++ F) w := by
  rw [nth_eq] at hL
  refine hS.perm ?_
  obtain ⟨hlt, rfl⟩ := List.getElem?_eq_some_iff.1 hL
  have h2 : (L.set i B).eraseIdx i = L.eraseIdx i := by rw [List.eraseIdx_set_eq]
  have h1 := cons_erase (l := L.set i B) (i := i) (by simpa using hlt)
  rw [List.getElem_set_self, h2] at h1
  exact h1.append_right F

theorem opx_store {t ty : TypeId} {x y : Operand} {pos : String} {after : Array Edge} {gd : Option (Nat × Bool)} {b off : Nat} {E : TypeId} {cs : List Value} {z : Value} {by_ : Nat} (i : Nat) (v : Value)
    (hL : nth L i = some (row b E cs)) (hx : ev T x = .pointer (some ⟨b, off, none⟩)) (hy : ev T y = v) (hE : El P t z 1 by_) (hv : v.oneCell' = true) (ho : off < cs.length)
    (h : K T (L.set i (row b E (cs.set off v)))) : OpX P g F { dst := none, op := .store t x y, type := ty, pos, after, guard := gd } T L K := by
  constructor
  intro w hS
  obtain ⟨w', hr, h'⟩ := (sl_at i hL hS).storeOne t z by_ hE v hv ho
  exact op_skip (exec_store _ (by rw [act_eval]; exact hx) (by rw [act_eval]; exact hy) hr) ⟨T, _, rfl, sl_back i hL h', h⟩

theorem opx_storea {t ty : TypeId} {x y : Operand} {pos : String} {after : Array Edge} {gd : Option (Nat × Bool)} {b off : Nat} {E : TypeId} {cs : List Value} {z : Value} {sz by_ : Nat} (i : Nat) (vs : List Value)
    (hE : El P t z sz by_) (hL : nth L i = some (row b E cs)) (hx : ev T x = .pointer (some ⟨b, off, none⟩)) (hy : ev T y = .agg vs.toArray) (hl : vs.length = sz) (hv : vs.all (·.oneCell') = true) (ho : off + sz ≤ cs.length)
    (h : K T (L.set i (row b E (cs.take off ++ vs ++ cs.drop (off + sz))))) : OpX P g F { dst := none, op := .store t x y, type := ty, pos, after, guard := gd } T L K := by
  constructor
  intro w hS
  obtain ⟨w', hr, h'⟩ := (sl_at i hL hS).storeAgg t z sz by_ hE vs hl (fun v hv' => List.all_eq_true.1 hv v hv') ho
  exact op_skip (exec_store _ (by rw [act_eval]; exact hx) (by rw [act_eval]; exact hy) hr) ⟨T, _, rfl, sl_back i hL h', h⟩

theorem opx_box {d : Nat} {t ty : TypeId} {x : Operand} {pos : String} {after : Array Edge} {gd : Option (Nat × Bool)} {v : Value} (cs : List Value)
    (hx : ev T x = v) (hv : v.cells = cs.toArray)
    (h : ∀ b, K (T.set d (.pointer (some ⟨b, 0, none⟩))) (row b t cs :: L)) : OpX P g F { dst := some d, op := .box t x, type := ty, pos, after, guard := gd } T L K := by
  refine ⟨fun w hS => op_value (exec_box _) ?_⟩
  rw [act_put, act_eval, hx, hv]
  exact ⟨_, _, rfl, hS.alloc _, h _⟩

theorem opx_alloc {d : Nat} {t ty : TypeId} {pos : String} {after : Array Edge} {gd : Option (Nat × Bool)} {z : Value} {sz by_ : Nat} (cs : List Value)
    (hE : El P t z sz by_) (hv : z.cells = cs.toArray)
    (h : ∀ b, K (T.set d (.pointer (some ⟨b, 0, none⟩))) (row b t cs :: L)) : OpX P g F { dst := some d, op := .alloc t, type := ty, pos, after, guard := gd } T L K := by
  refine ⟨fun w hS => op_value (exec_alloc _ hE) ?_⟩
  rw [act_put, hv]
  exact ⟨_, _, rfl, hS.alloc _, h _⟩

/-! ### calls -/

/-- The parts with these numbers. -/
def pick (is : List Nat) (L : List HP) : List HP := is.filterMap (nth L ·)
/-- The others. -/
def rest (is : List Nat) (L : List HP) : List HP := ((List.range L.length).filter fun i => !is.contains i).filterMap (nth L ·)

theorem pick_range (L : List HP) : pick (List.range L.length) L = L := by
  unfold pick
  induction L with
  | nil => rfl
  | cons a L ih =>
    rw [List.length_cons, List.range_succ_eq_map, List.filterMap_cons, List.filterMap_map]
    simp only [nth]
    exact congrArg _ ih

theorem pick_perm (is : List Nat) (L : List HP) (hn : is.Nodup) (hlt : ∀ i ∈ is, i < L.length) : L.Perm (pick is L ++ rest is L) := by
  have h0 : ((List.range L.length).filter fun i => is.contains i).Perm is := by
    rw [List.perm_ext_iff_of_nodup (List.nodup_range.filter _) hn]
    intro a
    simp only [List.mem_filter, List.mem_range, List.contains_iff_mem]
    exact ⟨fun h => h.2, fun h => ⟨hlt a h, h⟩⟩
  have h1 : (List.range L.length).Perm (is ++ (List.range L.length).filter fun i => !is.contains i) :=
    ((h0.symm.append_right _).trans (List.filter_append_perm _ _)).symm
  have h2 := h1.filterMap (nth L ·)
  rw [List.filterMap_append] at h2
  have h3 := pick_range L
  unfold pick at h3
  rw [h3] at h2
  exact h2

def okPick (is : List Nat) (n : Nat) : Bool := decide is.Nodup && is.all (· < n)

theorem sl_pick (is : List Nat) (h : okPick is L.length = true) {w : World} (hS : SL g (L ++ F) w) : SL g (pick is L ++ (rest is L ++ F)) w := by
  simp only [okPick, Bool.and_eq_true, decide_eq_true_eq, List.all_eq_true] at h
  rw [← List.append_assoc]
  exact hS.perm ((pick_perm is L h.1 h.2).append_right F)

theorem sl_drop (ps : List HP) : ∀ {K : List HP} {w : World}, SL g (ps ++ K) w → SL g K w := by
  induction ps with
  | nil => intro K w h; exact h
  | cons p ps ih => intro K w h; exact ih h.tail

/-- Only these are kept, in this order. -/
theorem sl_keep (is : List Nat) (h : okPick is L.length = true) {w : World} (hS : SL g (L ++ F) w) : SL g (pick is L ++ F) w := by
  have h1 := sl_pick is h hS
  have h2 : SL g (rest is L ++ (pick is L ++ F)) w := h1.perm (by
    rw [← List.append_assoc, ← List.append_assoc]; exact List.perm_append_comm.append_right F)
  exact sl_drop _ h2

theorem at_keep (is : List Nat) (h : okPick is L.length = true) (hk : At P f g F R k T (pick is L)) : At P f g F R k T L := hk.sl fun _ => sl_keep is h

theorem at_ret_spec {fn : Func} {v : Value} {post : Value → List HP → Prop} (is : List Nat) (hf : P.funcs[f]? = some fn) (hr : ∀ w, (results fn T.toArray).run P w = .ok v w)
    (hi : okPick is L.length = true) (hp : post v (pick is L)) : At P f g F (RPost g F post) (.code .ret :: k) T L :=
  at_ret hf (fun w _ => hr w) fun _ hS => ⟨v, pick is L, hp, rfl, sl_keep is hi hS⟩

theorem at_end_spec {fn : Func} {v : Value} {post : Value → List HP → Prop} (is : List Nat) (hf : P.funcs[f]? = some fn) (hr : ∀ w, (results fn T.toArray).run P w = .ok v w)
    (hi : okPick is L.length = true) (hp : post v (pick is L)) : At P f g F (RPost g F post) [] T L :=
  at_end hf (fun w _ => hr w) fun _ hS => ⟨v, pick is L, hp, rfl, sl_keep is hi hS⟩

/-- A call, by what is known of the function; its parts are the ones with the numbers 'is'. -/
theorem opx_call {h : FuncId} {args : List Value} {pre : List HP} {post : Value → List HP → Prop} (is : List Nat) (he : ∀ w, (execOp (act T).eval o).run P w = .ok (.enter h args.toArray) w)
    (hs : Does P h args pre post) (hi : okPick is L.length = true) (hp : pick is L = pre) (hk : ∀ v ps, post v ps → K (putD o.dst v T) (ps ++ rest is L)) : OpX P g F o T L K := by
  constructor
  intro w hS
  have h1 := sl_pick is hi hS
  rw [hp] at h1
  have h2 := hs.run g (rest is L ++ F) w h1
  unfold Oper.wp
  rw [he w]
  refine h2.mono fun e w' he => ?_
  obtain ⟨v, ps, hpost, rfl, hS'⟩ := he
  refine ⟨putD o.dst v T, ps ++ rest is L, by rw [act_put], by rw [List.append_assoc]; exact hS', hk v ps hpost⟩

end
end Go.Xg

/- Short names for printed proofs. -/
namespace Go.Xg
open Go.Sl
abbrev tu : Value := .tuple #[]
abbrev iv (n : Int) : Value := .int .i64 n
abbrev uv (n : Int) : Value := .int .u8 n
abbrev pv (b o : Nat) : Value := .pointer (some ⟨b, o, none⟩)
end Go.Xg
namespace Xs
open Go Go.Sl Go.Xg
variable {P : Program} {f : FuncId} {g : World} {F : List HP} {R : Ending → World → Prop} {k : List Item} {T : List Value} {L L' : List HP}
/-- A round's end: the other slots are what they are. -/
theorem same {HT : (Nat → Value) → List Value} {HL : (Nat → Value) → List HP} (eL : L = HL (fun j => T.getD j undef)) (h : ∀ J, At P f g F R k (HT J) (HL J)) (eT : T = HT (fun j => T.getD j undef)) : At P f g F R k T L := by
  rw [eL]
  generalize (fun j => T.getD j undef) = J at *
  subst eT
  exact h J
end Xs

/- Symbolic running: regions that draw their order. What only reads is taken first; what acts is taken in every order in which it may come. Over any program. -/
namespace Go.Xg
open Go Go.Sl
set_option linter.unusedVariables false

section
variable {P : Program} {ops : Array Oper} {Q0 : Act → World → Prop}

/-- Of those that act: what holds behind them; the others leave the world alone. -/
def Marked (es : List Nat) (S : Nat → World → Prop) (i : Nat) (w w' : World) : Prop := if es.contains i then S i w' else w' = w

def wpAnyS (P : Program) (ops : Array Oper) (Q0 : Act → World → Prop) (es : List Nat) (S : Nat → World → Prop) : Nat → Array Bool → Act → World → Prop
  | 0, listed, a, w => Region.ready .any ops listed = [] ∧ Q0 a w
  | fuel + 1, listed, a, w =>
    (Region.ready .any ops listed = [] → Q0 a w) ∧
    ∀ i ∈ Region.ready .any ops listed, wpOp P ops NoQ i (fun a' w' => Marked es S i w w' ∧ wpAnyS P ops Q0 es S fuel (listed.setIfInBounds i true) a' w') a w

variable {S : Nat → World → Prop} {es : List Nat}

theorem wpAny_of_S {Q : Exit → Act → World → Prop} (hQ : ∀ a w, Q0 a w → Q .normal a w) : ∀ (fuel : Nat) (listed : Array Bool) (a : Act) (w : World),
    wpAnyS P ops Q0 es S fuel listed a w → wpAny P .any ops Q fuel listed a w
  | 0, _, _, _, h => ⟨h.1, hQ _ _ h.2⟩
  | fuel + 1, _, _, _, h => ⟨fun h0 => hQ _ _ (h.1 h0), fun i hi => wpOp_weak (fun _ _ _ h => h.elim) (wpOp_mono (fun a' w' h' => wpAny_of_S hQ fuel _ a' w' h'.2) (h.2 i hi))⟩

theorem wpAnyS_first {i : Nat} {oi : Oper} {v : Value} {Si : World → Prop} (hi : ops[i]? = some oi) (hsel : ∀ (j : Nat) (o : Oper) cs b, ops[j]? = some o → o.op ≠ .select cs b)
    (hT : ∀ j, j < ops.size → es.contains j = true → anc ops ops.size i j = false → ∀ w, S j w → Si w) (hTi : es.contains i = false) :
    ∀ (fuel : Nat) (listed : Array Bool) (a : Act) (w : World), Closed ops listed →
      (∀ j oj, ops[j]? = some oj → j ≠ i → listed.getD j true = false → (∀ e ∈ oj.after, Region.binds .any e = true → e.on ≠ i) → oi.apart ops oj = true) →
      i ∈ Region.ready .any ops listed → Yl P ops Si oi v a → Si w →
      wpAnyS P ops Q0 es S fuel (listed.setIfInBounds i true) (a.put oi.dst v) w → wpAnyS P ops Q0 es S (fuel + 1) listed a w := by
  intro fuel
  induction fuel with
  | zero =>
    intro listed a w _ _ hr hy hS H
    refine ⟨fun h => (by rw [h] at hr; cases hr), fun j hj => ?_⟩
    by_cases hji : j = i
    · subst hji; exact hy.wpOp hi hS ⟨by unfold Marked; rw [hTi]; rfl, H⟩
    · have := ready_mono hj hji
      rw [H.1] at this
      cases this
  | succ fuel ih =>
    intro listed a w hc hfree hr hy hS H
    refine ⟨fun h => (by rw [h] at hr; cases hr), fun j hj => ?_⟩
    by_cases hji : j = i
    · subst hji; exact hy.wpOp hi hS ⟨by unfold Marked; rw [hTi]; rfl, H⟩
    · have h1 := H.2 j (ready_mono hj hji)
      obtain ⟨hjun, oj, hoj, hall⟩ := mem_ready.1 hj
      have hjlt : j < ops.size := (Array.getElem?_eq_some_iff.1 hoj).1
      have hiun : listed.getD i true = false := (mem_ready.1 hr).1
      have hnl : listed.getD i false = false := by
        rcases Nat.lt_or_ge i listed.size with h' | h'
        · simp [h'] at hiun ⊢; exact hiun
        · simp [Array.getElem?_eq_none h']
      have hTj : anc ops ops.size i j = false := by
        cases hTj : anc ops ops.size i j with
        | false => rfl
        | true =>
          have := anc_listed hc ops.size i j hTj (fun o ho e he hb => by rw [hoj] at ho; cases ho; exact hall e he hb)
          rw [hnl] at this; cases this
      have hnot : ∀ e ∈ oj.after, Region.binds .any e = true → e.on ≠ i := fun e he hb heq => by
        have h1 := hall e he hb
        rw [heq, hnl] at h1; cases h1
      have h2 := wpOp_putYl hoj (hfree j oj hoj hji hjun hnot) (fun cs b => hsel i oi cs b hi) (fun cs b => hsel j oj cs b hoj) hy h1
      have hfree' : ∀ k ok, ops[k]? = some ok → k ≠ i → (listed.setIfInBounds j true).getD k true = false →
          (∀ e ∈ ok.after, Region.binds .any e = true → e.on ≠ i) → oi.apart ops ok = true := fun k ok hk hki hun hno => by
        refine hfree k ok hk hki ?_ hno
        by_cases hjk : j = k
        · subst hjk; exact hjun
        · rw [getD_set_ne true hjk] at hun; exact hun
      refine wpOp_mono (fun a' w' h3 => ⟨h3.2.1, ih (listed.setIfInBounds j true) a' w' (hc.set hj) hfree' (ready_mono hr (Ne.symm hji)) h3.1 (by
        have h4 := h3.2.1
        unfold Marked at h4
        split at h4
        · rename_i he; exact hT j hjlt he hTj _ h4
        · rw [h4]; exact hS) ?_⟩) h2
      rw [Array.setIfInBounds_comm _ _ hji]
      exact h3.2.2
end

/-- What those that only read rest on: the operation's number, the numbers of those that may come ahead of it, and what it reads. -/
def SOf : List (Nat × List Nat × (World → Prop)) → Nat → World → Prop
  | [], _, _ => True
  | (_, js, S) :: qs, j, w => (if js.contains j then S w else True) ∧ SOf qs j w

def okQ (ops : List Oper) (i : Nat) (js : List Nat) : Bool := js.contains i && (List.range ops.length).all fun j => js.contains j || anc ops.toArray ops.length i j

theorem SOf.get {qs : List (Nat × List Nat × (World → Prop))} {i : Nat} {js : List Nat} {S : World → Prop} {j : Nat} {w : World} (h : SOf qs j w) (n : Nat) (hn : nth qs n = some (i, js, S)) (hj : js.contains j = true) : S w := by
  induction qs generalizing n with
  | nil => simp [nth] at hn
  | cons q qs ih =>
    obtain ⟨i', js', S'⟩ := q
    cases n with
    | zero =>
      simp only [nth, Option.some.injEq, Prod.mk.injEq] at hn
      obtain ⟨rfl, rfl, rfl⟩ := hn
      have := h.1
      rwa [if_pos hj] at this
    | succ n => exact ih h.2 n hn

section
variable {P : Program} {f : FuncId} {g : World} {F : List HP} {R : Ending → World → Prop} {k : List Item} {T T' : List Value} {L L' : List HP}
variable {l : List Oper} {o : Oper} {K : List Value → List HP → Prop} {qs : List (Nat × List Nat × (World → Prop))} {n : Nat} {listed : List Bool} {es : List Nat}

/-- The operations of a region that draws; those that have come are listed. -/
structure Any (P : Program) (g : World) (F : List HP) (l : List Oper) (es : List Nat) (qs : List (Nat × List Nat × (World → Prop))) (K : List Value → List HP → Prop) (n : Nat) (listed : List Bool) (T : List Value) (L : List HP) : Prop where
  run : Closed l.toArray listed.toArray → ∀ w, SL g (L ++ F) w → wpAnyS P l.toArray (OK1 g F K) es (SOf qs) n listed.toArray (act T) w

theorem at_draw {id : Nat} (es : List Nat) (qs : List (Nat × List Nat × (World → Prop))) (hm : P.follows .mixedOrders = true)
    (h : Any P g F l es qs (fun T' L' => At P f g F R k T' L') l.length (List.replicate l.length false) T L) : At P f g F R (.code (.region id l.toArray true) :: k) T L := by
  constructor
  intro w hS cs
  have hc : Closed l.toArray (List.replicate l.length false).toArray := fun k o _ hl => by
    exfalso
    simp only [Array.getD_eq_getD_getElem?, List.getElem?_toArray, List.getElem?_replicate] at hl
    split at hl <;> simp at hl
  have h1 := h.run hc w.drew hS
  have h2 : (Code.region id l.toArray true).wp P (RQ g F (fun T' L' => At P f g F R k T' L')) (act T) w := by
    refine wp_region_any hm ?_
    have := wpAny_of_S (Q := RQ g F (fun T' L' => At P f g F R k T' L')) (fun a w h => ⟨rfl, h⟩) _ _ _ _ h1
    simpa using this
  obtain ⟨e, a', w', ⟨rfl, T', L', rfl, hS', hk⟩, harr⟩ := h2 (base f) k cs
  obtain ⟨e, w2, fr, hR, hc, hf, hl⟩ := hk.run w' hS' cs
  exact ⟨e, w2, fr, hR, Comes.of_steps harr hc, hf, hl⟩

theorem any_nil (hr : Region.ready .any l.toArray listed.toArray = []) (h : K T L) : Any P g F l es qs K 0 listed T L :=
  ⟨fun _ _ hS => ⟨hr, T, L, rfl, hS, h⟩⟩

/-- One that only reckons. -/
theorem any_first {v : Value} {Si : World → Prop} (i : Nat) (hs : Region.noSelect l.toArray = true) (hi : nth l i = some o) (hr : (Region.ready .any l.toArray listed.toArray).contains i = true)
    (hf : Region.free .any l.toArray listed.toArray i = true) (hT : ∀ j, j < l.length → es.contains j = true → anc l.toArray l.length i j = false → ∀ w, SOf qs j w → Si w) (hTi : es.contains i = false) (hnow : ∀ w, SL g (L ++ F) w → Si w)
    (hy : Yl P l.toArray Si o v (act T)) (h : Any P g F l es qs K n (listed.set i true) (putD o.dst v T) L) : Any P g F l es qs K (n + 1) listed T L := by
  constructor
  intro hc w hS
  have hi' : l.toArray[i]? = some o := by rw [nth_eq] at hi; simpa using hi
  have hr' : i ∈ Region.ready .any l.toArray listed.toArray := by simpa using hr
  refine wpAnyS_first (Si := Si) hi' (Region.noSelect_spec hs) (by simpa using hT) hTi n listed.toArray (act T) w hc (Region.free_spec hi' hf) hr' hy (hnow w hS) ?_
  rw [act_put]
  have := h.run (by have := hc.set hr'; simpa using this) w hS
  simpa using this

/-- One that only reckons. -/
theorem any_pure {d : Nat} (v : Value) (i : Nat) (hs : Region.noSelect l.toArray = true) (hi : nth l i = some o) (hr : (Region.ready .any l.toArray listed.toArray).contains i = true)
    (hf : Region.free .any l.toArray listed.toArray i = true) (hTi : es.contains i = false) (hw : Region.wanted o (yielded l.toArray T.toArray) = true) (hd : o.dst = some d)
    (he : ∀ w, (execOp (act T).eval o).run P w = .ok (.value v) w) (h : Any P g F l es qs K n (listed.set i true) (T.set d v) L) : Any P g F l es qs K (n + 1) listed T L :=
  any_first (v := v) (Si := fun _ => True) i hs hi hr hf (fun _ _ _ _ _ _ => trivial) hTi (fun _ _ => trivial)
    (.inl ⟨hw, fun w _ => by unfold yieldsAt; rw [he w]; exact ⟨rfl, rfl⟩⟩) (by rw [hd]; exact h)

theorem any_int {d : Nat} (kd : IntKind) (e : Int) {e' : Int} (i : Nat) (hs : Region.noSelect l.toArray = true) (hi : nth l i = some o) (hr : (Region.ready .any l.toArray listed.toArray).contains i = true)
    (hf : Region.free .any l.toArray listed.toArray i = true) (hTi : es.contains i = false) (hw : Region.wanted o (yielded l.toArray T.toArray) = true) (hd : o.dst = some d)
    (he : ∀ w, (execOp (act T).eval o).run P w = .ok (.value (.int kd e)) w) (hb : e = e') (h : Any P g F l es qs K n (listed.set i true) (T.set d (.int kd e')) L) : Any P g F l es qs K (n + 1) listed T L := by
  subst hb; exact any_pure _ i hs hi hr hf hTi hw hd he h

/-- One that is not wanted. -/
theorem any_skip (i : Nat) (hs : Region.noSelect l.toArray = true) (hi : nth l i = some o) (hr : (Region.ready .any l.toArray listed.toArray).contains i = true)
    (hf : Region.free .any l.toArray listed.toArray i = true) (hTi : es.contains i = false) (hw : Region.wanted o (yielded l.toArray T.toArray) = false)
    (h : Any P g F l es qs K n (listed.set i true) (putD o.dst undef T) L) : Any P g F l es qs K (n + 1) listed T L :=
  any_first (v := undef) (Si := fun _ => True) i hs hi hr hf (fun _ _ _ _ _ _ => trivial) hTi (fun _ _ => trivial) (.inr ⟨hw, rfl⟩) h

/-- One that reads: entry m of 'qs' says what it rests on. -/
theorem any_reads {d : Nat} (v : Value) (i m : Nat) {js : List Nat} {Si : World → Prop} (hs : Region.noSelect l.toArray = true) (hi : nth l i = some o) (hr : (Region.ready .any l.toArray listed.toArray).contains i = true)
    (hf : Region.free .any l.toArray listed.toArray i = true) (hTi : es.contains i = false) (hw : Region.wanted o (yielded l.toArray T.toArray) = true) (hd : o.dst = some d)
    (hm : nth qs m = some (i, js, Si)) (hj : (es.all fun j => js.contains j || anc l.toArray l.length i j) = true) (hnow : ∀ w, SL g (L ++ F) w → Si w)
    (he : ∀ w, Si w → (execOp (act T).eval o).run P w = .ok (.value v) w) (h : Any P g F l es qs K n (listed.set i true) (T.set d v) L) : Any P g F l es qs K (n + 1) listed T L :=
  any_first (v := v) (Si := Si) i hs hi hr hf (fun j _ hje ha w hS => hS.get m hm (by
      have := List.all_eq_true.1 hj j (by simpa using hje)
      rw [ha, Bool.or_false] at this; exact this)) hTi hnow
    (.inl ⟨hw, fun w hS => by unfold yieldsAt; rw [he w hS]; exact ⟨rfl, rfl⟩⟩) (by rw [hd]; exact h)

/-- What one that acts owes to those that read. -/
structure Acts (P : Program) (g : World) (F : List HP) (l : List Oper) (es : List Nat) (qs : List (Nat × List Nat × (World → Prop))) (K : List Value → List HP → Prop) (n : Nat) (listed : List Bool) (i : Nat) (T : List Value) (L : List HP) : Prop where
  owes : ∀ w, SL g (L ++ F) w → SOf qs i w
  rest : Any P g F l es qs K n (listed.set i true) T L

/-- One of those that may come next. -/
structure Comes1 (P : Program) (g : World) (F : List HP) (l : List Oper) (es : List Nat) (qs : List (Nat × List Nat × (World → Prop))) (K : List Value → List HP → Prop) (n : Nat) (listed : List Bool) (T : List Value) (L : List HP) (i : Nat) : Prop where
  run : ∃ o, nth l i = some o ∧ es.contains i = true ∧
    ((Region.wanted o (yielded l.toArray T.toArray) = true ∧ OpX P g F o T L (Acts P g F l es qs K n listed i)) ∨
     (Region.wanted o (yielded l.toArray T.toArray) = false ∧ Acts P g F l es qs K n listed i (putD o.dst undef T) L))

def All1 (p : Nat → Prop) : List Nat → Prop
  | [] => True
  | i :: is => p i ∧ All1 p is

theorem All1.get {p : Nat → Prop} : ∀ {is : List Nat} {i : Nat}, All1 p is → i ∈ is → p i
  | _ :: _, _, h, .head _ => h.1
  | _ :: _, _, h, .tail _ hm => All1.get h.2 hm

/-- Those that may come next, each. -/
theorem any_each (is : List Nat) (hr : Region.ready .any l.toArray listed.toArray = is) (hne : is.isEmpty = false) (h : All1 (Comes1 P g F l es qs K n listed T L) is) : Any P g F l es qs K (n + 1) listed T L := by
  constructor
  intro hc w hS
  refine ⟨fun h0 => (by rw [hr] at h0; subst h0; simp at hne), fun i hi => ?_⟩
  have hi2 := hi
  rw [hr] at hi2
  obtain ⟨o, ho, hes, h⟩ := (h.get hi2).run
  have hc' : Closed l.toArray (listed.set i true).toArray := by have := hc.set hi; simpa using this
  have ho' : l.toArray[i]? = some o := by rw [nth_eq] at ho; simpa using ho
  have hes' : i ∈ es := by simpa using hes
  unfold wpOp
  simp only [ho']
  rcases h with ⟨hw, h⟩ | ⟨hw, h⟩
  · rw [if_pos (by exact hw)]
    refine .inl (Oper.wp_mono ?_ (h.run w hS))
    rintro a w' ⟨T', L', rfl, hS', h1, h2⟩
    refine ⟨by unfold Marked; rw [if_pos (by simpa using hes')]; exact h1 w' hS', ?_⟩
    have := h2.run hc' w' hS'
    simpa using this
  · rw [if_neg (by show ¬ Region.wanted o (yielded l.toArray T.toArray) = true; rw [hw]; simp), act_put]
    refine ⟨by unfold Marked; rw [if_pos (by simpa using hes')]; exact h.owes w hS, ?_⟩
    have := h.rest.run hc' w hS
    simpa using this

theorem comes_act {i : Nat} (ho : nth l i = some o) (he : es.contains i = true) (hw : Region.wanted o (yielded l.toArray T.toArray) = true)
    (h : OpX P g F o T L (Acts P g F l es qs K n listed i)) : Comes1 P g F l es qs K n listed T L i := ⟨o, ho, he, .inl ⟨hw, h⟩⟩
theorem comes_skip {i : Nat} (ho : nth l i = some o) (he : es.contains i = true) (hw : Region.wanted o (yielded l.toArray T.toArray) = false)
    (h : Acts P g F l es qs K n listed i (putD o.dst undef T) L) : Comes1 P g F l es qs K n listed T L i := ⟨o, ho, he, .inr ⟨hw, h⟩⟩

theorem any_flag {j : Nat} {c : Bool} (hj : nth T j = some (.bool c)) (h1 : c = true → Any P g F l es qs K n listed (T.set j (.bool true)) L) (h0 : c = false → Any P g F l es qs K n listed (T.set j (.bool false)) L) : Any P g F l es qs K n listed T L := by
  have hs : T.set j (.bool c) = T := by
    rw [nth_eq] at hj
    obtain ⟨hlt, e⟩ := List.getElem?_eq_some_iff.1 hj
    rw [← e]; simp
  cases c with
  | true => have := h1 rfl; rwa [hs] at this
  | false => have := h0 rfl; rwa [hs] at this
end
end Go.Xg
