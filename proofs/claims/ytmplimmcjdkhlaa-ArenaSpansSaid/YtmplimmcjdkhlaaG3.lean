/- Symbolic running: shapes of posts, sizes of types, integers. Over any program. -/
import Derived.Test.YtmplimmcjdkhlaaG2
import Derived.IntWalk
namespace Go.Xg
open Go Go.Sl
set_option linter.unusedVariables false

/-- It returns this value; its cells are then these. -/
def Ret (v : Value) (ps : List HP) : Value → List HP → Prop := fun v' ps' => v' = v ∧ ps' = ps
/-- .. for some x. -/
def RetE {α : Sort _} (p : α → Prop) (V : α → Value) (PS : α → List HP) : Value → List HP → Prop := fun v' ps' => ∃ x, p x ∧ v' = V x ∧ ps' = PS x

/-- The type has this size, and a zero. -/
def okTy (P : Program) (t : TypeId) (sz : Nat) : Bool := match P.info? t with
  | some i => i.size == sz && (match i.zero with | some z => z.cells.size == sz | none => false)
  | none => false

theorem okTy_el {P : Program} {t : TypeId} {sz : Nat} (h : okTy P t sz = true) : ∃ z by_, El P t z sz by_ := by
  unfold okTy at h
  cases hi : P.info? t with
  | none => simp [hi] at h
  | some i =>
    simp only [hi, Bool.and_eq_true, beq_iff_eq] at h
    obtain ⟨h1, h2⟩ := h
    cases hz : i.zero with
    | none => simp [hz] at h2
    | some z => simp only [hz, beq_iff_eq] at h2; exact ⟨z, i.bytes, i, hi, hz, h1, rfl, h2⟩

/-- The type's zero, as cells. -/
def zeroOf (P : Program) (t : TypeId) : Option (List Value) := (P.info? t).bind fun i => i.zero.map (·.cells.toList)

theorem zeroOf.el {P : Program} {t : TypeId} {cs : List Value} {sz : Nat} (h : zeroOf P t = some cs) (hs : okTy P t sz = true) : ∃ z by_, El P t z sz by_ ∧ z.cells = cs.toArray := by
  obtain ⟨z, by_, hE⟩ := okTy_el hs
  obtain ⟨i, hi, hz, h1, h2, h3⟩ := hE
  refine ⟨z, by_, ⟨i, hi, hz, h1, h2, h3⟩, ?_⟩
  simp [zeroOf, hi, hz] at h
  rw [← h]

section
variable {P : Program} {f : FuncId} {g : World} {F : List HP} {R : Ending → World → Prop} {k : List Item} {T T' : List Value} {L L' : List HP} {o : Oper} {K : List Value → List HP → Prop}

theorem At.same (eT : T = T') (eL : L = L') (h : At P f g F R k T' L') : At P f g F R k T L := by subst eT; subst eL; exact h

theorem opx_call1 {h : FuncId} {args : List Value} {pre : List HP} {v : Value} {ps : List HP} (is : List Nat) (he : ∀ w, (execOp (act T).eval o).run P w = .ok (.enter h args.toArray) w)
    (hs : Does P h args pre (Ret v ps)) (hi : okPick is L.length = true) (hp : pick is L = pre) (hk : K (putD o.dst v T) (ps ++ rest is L)) : OpX P g F o T L K :=
  opx_call is he hs hi hp fun v' ps' ⟨e1, e2⟩ => by rw [e1, e2]; exact hk

theorem opx_callE {α : Sort _} {h : FuncId} {args : List Value} {pre : List HP} {p : α → Prop} {V : α → Value} {PS : α → List HP} (is : List Nat) (he : ∀ w, (execOp (act T).eval o).run P w = .ok (.enter h args.toArray) w)
    (hs : Does P h args pre (RetE p V PS)) (hi : okPick is L.length = true) (hp : pick is L = pre) (hk : ∀ x, p x → K (putD o.dst (V x) T) (PS x ++ rest is L)) : OpX P g F o T L K :=
  opx_call is he hs hi hp fun v' ps' ⟨x, h, e1, e2⟩ => by rw [e1, e2]; exact hk x h

theorem opx_store1 {t ty : TypeId} {x y : Operand} {pos : String} {after : Array Edge} {gd : Option (Nat × Bool)} {b off : Nat} {E : TypeId} {cs : List Value} (i : Nat) (v : Value)
    (hE : okTy P t 1 = true) (hL : nth L i = some (row b E cs)) (hx : ev T x = .pointer (some ⟨b, off, none⟩)) (hy : ev T y = v) (hv : v.oneCell' = true) (ho : off < cs.length)
    (h : K T (L.set i (row b E (cs.set off v)))) : OpX P g F { dst := none, op := .store t x y, type := ty, pos, after, guard := gd } T L K := by
  obtain ⟨z, by_, hE⟩ := okTy_el hE
  exact opx_store i v hL hx hy hE hv ho h

theorem opx_storen {t ty : TypeId} {x y : Operand} {pos : String} {after : Array Edge} {gd : Option (Nat × Bool)} {b off : Nat} {E : TypeId} {cs : List Value} (sz : Nat) (i : Nat) (vs : List Value)
    (hE : okTy P t sz = true) (hL : nth L i = some (row b E cs)) (hx : ev T x = .pointer (some ⟨b, off, none⟩)) (hy : ev T y = .agg vs.toArray) (hl : vs.length = sz) (hv : vs.all (·.oneCell') = true) (ho : off + sz ≤ cs.length)
    (h : K T (L.set i (row b E (cs.take off ++ vs ++ cs.drop (off + sz))))) : OpX P g F { dst := none, op := .store t x y, type := ty, pos, after, guard := gd } T L K := by
  obtain ⟨z, by_, hE⟩ := okTy_el hE
  exact opx_storea i vs hE hL hx hy hl hv ho h

theorem opx_loadn {d : Nat} {t ty : TypeId} {x : Operand} {pos : String} {after : Array Edge} {gd : Option (Nat × Bool)} {b off : Nat} {E : TypeId} {cs : List Value} (sz : Nat) (i : Nat) (vs : List Value)
    (hE : okTy P t sz = true) (hL : nth L i = some (row b E cs)) (hx : ev T x = .pointer (some ⟨b, off, none⟩)) (hl : vs.length = sz) (hc : ∀ j v, vs[j]? = some v → cs[off + j]? = some v) (ht : aggTy P t = true)
    (h : K (T.set d (.agg vs.toArray)) L) : OpX P g F { dst := some d, op := .load t x, type := ty, pos, after, guard := gd } T L K := by
  obtain ⟨z, by_, hE⟩ := okTy_el hE
  exact opx_loada i vs hE hL hx hl hc ht h

/-- The cells of a struct within literal cells. -/
theorem cells_at {vs cs : List Value} {off : Nat} (h : vs = (cs.drop off).take vs.length) : ∀ j v, vs[j]? = some v → cs[off + j]? = some v := by
  intro j v hj
  rw [h, List.getElem?_take] at hj
  split at hj
  · rw [List.getElem?_drop] at hj; exact hj
  · cases hj

theorem opx_new {d : Nat} {t ty : TypeId} {pos : String} {after : Array Edge} {gd : Option (Nat × Bool)} (sz : Nat) (cs : List Value) (hs : okTy P t sz = true) (hz : zeroOf P t = some cs)
    (h : ∀ b, K (T.set d (.pointer (some ⟨b, 0, none⟩))) (row b t cs :: L)) : OpX P g F { dst := some d, op := .alloc t, type := ty, pos, after, guard := gd } T L K := by
  obtain ⟨z, by_, hE, hv⟩ := zeroOf.el hz hs
  exact opx_alloc cs hE hv h

theorem at_ndec {c : Operand} {x y : Code} {p : Prop} [inst : Decidable p] (hc : ev T c = .bool (!decide p)) (h1 : ¬ p → At P f g F R (.code x :: k) T L) (h0 : p → At P f g F R (.code y :: k) T L) :
    At P f g F R (.code (.cond c x y) :: k) T L :=
  at_cond hc (fun h => h1 (of_decide_eq_false (by simpa using h))) fun h => h0 (of_decide_eq_true (by simpa using h))

/-- A loop, by what holds at its head. -/
theorem at_rounds {α : Sort _} {body : Code} (μ : α → Nat) (HT : α → List Value) (HL : α → List HP) (x : α) (eT : T = HT x) (eL : L = HL x)
    (h : ∀ x, (∀ y, μ y < μ x → At P f g F R (.code body :: .inLoop body :: k) (HT y) (HL y)) → At P f g F R (.code body :: .inLoop body :: k) (HT x) (HL x)) :
    At P f g F R (.code (.loop body) :: k) T L := by
  subst eT; subst eL
  refine at_loop ?_
  have key : ∀ n x, μ x = n → At P f g F R (.code body :: .inLoop body :: k) (HT x) (HL x) := by
    intro n
    induction n using Nat.strongRecOn with
    | _ n ih => intro x hx; exact h x fun y hy => ih (μ y) (hx ▸ hy) y rfl
  exact key _ x rfl

end

section
variable {P : Program} {g : World} {F : List HP} {T : List Value} {L : List HP}

/-- What a load rests on. -/
theorem run_load {d : Option Tmp} {t ty : TypeId} {x : Operand} {pos : String} {after : Array Edge} {gd : Option (Nat × Bool)} {a : Addr} {v : Value} {w : World}
    (hx : ev T x = .pointer (some a)) (ht : one P t = true) (h : w.cell? a = some v) : (execOp (act T).eval { dst := d, op := .load t x, type := ty, pos, after, guard := gd }).run P w = .ok (.value v) w :=
  exec_load _ (by rw [act_eval]; exact hx) (one_load w t ht _ v h)

def CellIs (b off : Nat) (v : Value) (w : World) : Prop := w.cell? ⟨b, off, none⟩ = some v

theorem cell_now {b off : Nat} {E : TypeId} {cs : List Value} {v : Value} (i : Nat) (hL : nth L i = some (row b E cs)) (hc : cs[off]? = some v) (w : World) (hS : SL g (L ++ F) w) : CellIs b off v w := by
  unfold CellIs
  rw [hS.cell (b := b) (E := E) (cs := cs) (sl_nth (w := w) hL)]; exact hc

def Owes (g : World) (F : List HP) (L : List HP) (qs : List (Nat × List Nat × (World → Prop))) (i : Nat) : Prop := ∀ w, SL g (L ++ F) w → SOf qs i w

theorem owes_nil {i : Nat} : Owes g F L [] i := fun _ _ => trivial
theorem owes_skip {i n : Nat} {js : List Nat} {S : World → Prop} {qs : List (Nat × List Nat × (World → Prop))} (hj : js.contains i = false) (h : Owes g F L qs i) : Owes g F L ((n, js, S) :: qs) i :=
  fun w hS => ⟨by rw [if_neg (by rw [hj]; simp)]; trivial, h w hS⟩
theorem owes_cell {i n b off : Nat} {js : List Nat} {v : Value} {E : TypeId} {cs : List Value} {qs : List (Nat × List Nat × (World → Prop))} (m : Nat) (hL : nth L m = some (row b E cs)) (hc : cs[off]? = some v) (h : Owes g F L qs i) :
    Owes g F L ((n, js, CellIs b off v) :: qs) i :=
  fun w hS => ⟨by split; exact cell_now m hL hc w hS; trivial, h w hS⟩

theorem acts {l : List Oper} {es : List Nat} {qs : List (Nat × List Nat × (World → Prop))} {K : List Value → List HP → Prop} {n i : Nat} {listed : List Bool} (h : Owes g F L qs i) (hk : Any P g F l es qs K n (listed.set i true) T L) :
    Acts P g F l es qs K n listed i T L := ⟨h, hk⟩
end

/-! ### integers -/
def band (k : IntKind) (x y : Int) : Int := k.wrap (BitVec.ofInt k.bits x &&& BitVec.ofInt k.bits y).toNat
def bor (k : IntKind) (x y : Int) : Int := k.wrap (BitVec.ofInt k.bits x ||| BitVec.ofInt k.bits y).toNat
def bxor (k : IntKind) (x y : Int) : Int := k.wrap (BitVec.ofInt k.bits x ^^^ BitVec.ofInt k.bits y).toNat
def bclr (k : IntKind) (x y : Int) : Int := k.wrap (BitVec.ofInt k.bits x &&& ~~~ BitVec.ofInt k.bits y).toNat

theorem shr_div (x n : Int) (h : 0 < n) : x.fdiv n = x / n := Int.fdiv_eq_ediv_of_nonneg x (by omega)
theorem rem_mod (x y : Int) (h : 0 ≤ x) : x.tmod y = x % y := Int.tmod_eq_emod_of_nonneg h
theorem quo_div (x y : Int) (h : 0 ≤ x) : x.tdiv y = x / y := Int.tdiv_eq_ediv_of_nonneg h
theorem wrap_i64_in {n : Int} (h : -9223372036854775808 ≤ n ∧ n ≤ 9223372036854775807) : IntKind.i64.wrap n = n := IntWalk.i64_in n h
theorem wrap_u8_in {n : Int} (h : 0 ≤ n ∧ n ≤ 255) : IntKind.u8.wrap n = n := IntWalk.u8_in n h
theorem wrap_u16_in {n : Int} (h : 0 ≤ n ∧ n ≤ 65535) : IntKind.u16.wrap n = n := IntWalk.u16_in n h
theorem wrap_u32_in {n : Int} (h : 0 ≤ n ∧ n ≤ 4294967295) : IntKind.u32.wrap n = n := IntWalk.u32_in n h
theorem wrap_u64_in {n : Int} (h : 0 ≤ n ∧ n ≤ 18446744073709551615) : IntKind.u64.wrap n = n := IntWalk.u64_in n h
theorem wrap_i32_in {n : Int} (h : -2147483648 ≤ n ∧ n ≤ 2147483647) : IntKind.i32.wrap n = n := IntWalk.i32_in n h
theorem wrap_u8_mod (n : Int) : IntKind.u8.wrap n = n % 256 := by simp [IntKind.wrap, IntKind.bits, IntKind.signed]
theorem wrap_u16_mod (n : Int) : IntKind.u16.wrap n = n % 65536 := by simp [IntKind.wrap, IntKind.bits, IntKind.signed]
theorem wrap_u32_mod (n : Int) : IntKind.u32.wrap n = n % 4294967296 := by simp [IntKind.wrap, IntKind.bits, IntKind.signed]
theorem wrap_u64_mod (n : Int) : IntKind.u64.wrap n = n % 18446744073709551616 := by simp [IntKind.wrap, IntKind.bits, IntKind.signed]
theorem wrap_i64_quo {x y : Int} (h : 0 ≤ x ∧ x ≤ 9223372036854775807 ∧ 1 ≤ y) : IntKind.i64.wrap (x.tdiv y) = x / y := IntWalk.i64_quo x y h
theorem wrap_u8_quo {x y : Int} (h : 0 ≤ x ∧ x ≤ 255 ∧ 1 ≤ y) : IntKind.u8.wrap (x.tdiv y) = x / y := IntWalk.u8_quo x y h

end Go.Xg
