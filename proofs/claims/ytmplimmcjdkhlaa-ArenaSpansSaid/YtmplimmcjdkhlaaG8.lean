/- Symbolic running: what is only read (arguments); rows of structs; appended zeros. Over any program. -/
import Derived.Test.YtmplimmcjdkhlaaG7
namespace Go.Xg
open Go Go.Sl
set_option linter.unusedVariables false

def offA (a : Option Addr) : Nat := match a with
  | some x => x.off
  | none => 0

/-- The cells of structs, one behind the other. -/
abbrev recs {α : Type} (cells : α → List Value) (l : List α) : List Value := l.flatMap cells

theorem get_recs {α : Type} {cells : α → List Value} {wd : Nat} (hw : ∀ x, (cells x).length = wd) (d : α) {l : List α} {i j : Nat} (hi : i < l.length) (hj : j < wd) :
    (recs cells l)[i * wd + j]? = (cells (l.getD i d))[j]? := by
  induction l generalizing i with
  | nil => simp at hi
  | cons x l ih =>
    cases i with
    | zero =>
      simp only [recs, List.flatMap_cons, Nat.zero_mul, Nat.zero_add, List.getD_cons_zero]
      rw [List.getElem?_append_left (by rw [hw]; exact hj)]
    | succ i =>
      simp only [recs, List.flatMap_cons, List.getD_cons_succ]
      rw [List.getElem?_append_right (by rw [hw, Nat.succ_mul]; omega), hw]
      have : (i + 1) * wd + j - wd = i * wd + j := by rw [Nat.succ_mul]; omega
      rw [this]
      exact ih (by simpa using hi)

theorem get_recs' {α : Type} {cells : α → List Value} {wd : Nat} (hw : ∀ x, (cells x).length = wd) (d : α) {l : List α} {off : Nat} {v : Value} (i j : Nat) (hi : i < l.length) (hj : j < wd) (ho : off = i * wd + j) (hv : (cells (l.getD i d))[j]? = some v) :
    (recs cells l)[off]? = some v := by
  subst ho; rw [get_recs hw d hi hj]; exact hv

theorem recs_len {α : Type} {cells : α → List Value} {wd : Nat} (hw : ∀ x, (cells x).length = wd) (l : List α) : (recs cells l).length = l.length * wd := by
  induction l with
  | nil => simp
  | cons x l ih => simp only [recs, List.flatMap_cons, List.length_append, List.length_cons, hw, Nat.succ_mul] at *; omega

section
variable {P : Program} {f : FuncId} {g : World} {F : List HP} {R : Ending → World → Prop} {k : List Item} {T T' : List Value} {L L' : List HP} {o : Oper} {K : List Value → List HP → Prop}
variable {E sz n c : Nat} {a : Option Addr} {vs : List Value} {w : World} {A : HP}

/-- Back at a loop's head. -/
theorem at_back {HT : (Nat → Value) → List Value} {HL : (Nat → Value) → List HP} (is : List Nat) (hi : okPick is L.length = true) (h : ∀ J', At P f g F R k (HT J') (HL J')) (eT : T = HT (fun j => T.getD j undef)) (eL : pick is L = HL (fun j => T.getD j undef)) : At P f g F R k T L := by
  refine at_keep is hi ?_
  rw [eL]
  generalize (fun j => T.getD j undef) = J at *
  subst eT
  exact h J

theorem opx_call1' {h : FuncId} {args : List Value} {pre : List HP} {v : Value} {ps : List HP} (is : List Nat) (L' : List HP) (he : ∀ w, (execOp (act T).eval o).run P w = .ok (.enter h args.toArray) w)
    (hs : Does P h args pre (Ret v ps)) (hi : okPick is L.length = true) (hp : pick is L = pre) (hL : ps ++ rest is L = L') (hk : K (putD o.dst v T) L') : OpX P g F o T L K :=
  opx_call1 is he hs hi hp (by rw [hL]; exact hk)

theorem opx_callE' {α : Sort _} {h : FuncId} {args : List Value} {pre : List HP} {p : α → Prop} {V : α → Value} {PS : α → List HP} (is : List Nat) (L' : α → List HP) (he : ∀ w, (execOp (act T).eval o).run P w = .ok (.enter h args.toArray) w)
    (hs : Does P h args pre (RetE p V PS)) (hi : okPick is L.length = true) (hp : pick is L = pre) (hL : (fun x => PS x ++ rest is L) = L') (hk : ∀ x, p x → K (putD o.dst (V x) T) (L' x)) : OpX P g F o T L K :=
  opx_callE is he hs hi hp fun x hx => by have := congrFun hL x; rw [this]; exact hk x hx

theorem rd_cell (h : Rd w sz (.slice a n c) n vs) {j : Nat} {v : Value} (hv : vs[j]? = some v) :
    a = some ⟨blk a, offA a, (a.bind (·.spot))⟩ ∧ w.cell? ⟨blk a, offA a + j, none⟩ = some v ∧ (j = 0 → a.bind (·.spot) = none) := by
  obtain ⟨a', c', e, h1, h2⟩ := h
  cases e
  obtain ⟨ad, rfl, h3⟩ := h2 j v hv
  refine ⟨rfl, ?_, ?_⟩
  · by_cases hj : j = 0
    · subst hj
      have hs : ad.spot = none := by
        cases hs : ad.spot with
        | none => rfl
        | some s =>
          exfalso
          simp only [Addr.add, if_true, World.cell?, hs] at h3
          split at h3 <;> simp at h3
      simp only [Addr.add, if_true] at h3
      have : ad = ⟨ad.block, ad.off, none⟩ := by cases ad; simp_all
      rw [this] at h3
      exact h3
    · simp only [Addr.add, if_neg hj] at h3
      exact h3
  · intro hj
    subst hj
    cases hs : ad.spot with
    | none => simp [hs]
    | some s =>
      exfalso
      simp only [Addr.add, if_true, World.cell?, hs] at h3
      split at h3 <;> simp at h3

def RdIs (sz : Nat) (s : Value) (n : Nat) (vs : List Value) (w : World) : Prop := Rd w sz s n vs

theorem run_ix_rd {d : Option Tmp} {t ty elem : TypeId} {x y : Operand} {pos : String} {after : Array Edge} {gd : Option (Nat × Bool)} {kd : IntKind} {e : Int} {szR : Nat} (sz j off' : Nat)
    (hu : slTy P t elem = true) (hs : szIs P elem sz = true) (hx : ev T x = .slice a n c) (hy : ev T y = .int kd e) (he : e = (j : Int)) (hj : j < n) (hlt : j * sz < vs.length) (ho : offA a + j * sz = off') (w : World) (h : RdIs szR (.slice a n c) n vs w) :
    (execOp (act T).eval { dst := d, op := .indexAddr t x y, type := ty, pos, after, guard := gd }).run P w = .ok (.value (.pointer (some ⟨blk a, off', none⟩))) w := by
  subst ho
  obtain ⟨h1, _, h3⟩ := rd_cell h (List.getElem?_eq_getElem hlt)
  obtain ⟨ii, hi, rfl⟩ := szIs_info hs
  subst he
  have hu := slTy_u hu
  rw [h1] at hx
  simp only [execOp, Instr.indexAt, act_eval, hx, hy, asIntOf]
  by_cases h0 : j * ii.size = 0
  · have h4 := h3 h0
    simp [run_underlying hu, sizeOf, typeInfo, hi, hj, Addr.add, h0, h4]
  · simp [run_underlying hu, sizeOf, typeInfo, hi, hj, Addr.add, h0]

theorem run_load_rd {d : Option Tmp} {t ty : TypeId} {x : Operand} {pos : String} {after : Array Edge} {gd : Option (Nat × Bool)} {szR off0 : Nat} {v : Value} (off : Nat)
    (hx : ev T x = .pointer (some ⟨blk a, off0, none⟩)) (ho : off0 = offA a + off) (hc : vs[off]? = some v) (ht : one P t = true) (w : World) (h : RdIs szR (.slice a n c) n vs w) :
    (execOp (act T).eval { dst := d, op := .load t x, type := ty, pos, after, guard := gd }).run P w = .ok (.value v) w :=
  exec_load _ (by rw [act_eval, hx, ho]) (one_load w t ht _ v (rd_cell h hc).2.1)

theorem run_loadn_rd {d : Option Tmp} {t ty : TypeId} {x : Operand} {pos : String} {after : Array Edge} {gd : Option (Nat × Bool)} {szR off0 : Nat} (szT off : Nat) (us : List Value)
    (hE : okTy P t szT = true) (hx : ev T x = .pointer (some ⟨blk a, off0, none⟩)) (ho : off0 = offA a + off) (hl : us.length = szT) (hc : ∀ j v, us[j]? = some v → vs[off + j]? = some v) (ht : aggTy P t = true) (w : World) (h : RdIs szR (.slice a n c) n vs w) :
    (execOp (act T).eval { dst := d, op := .load t x, type := ty, pos, after, guard := gd }).run P w = .ok (.value (.agg us.toArray)) w := by
  obtain ⟨z, by_, hE⟩ := okTy_el hE
  exact exec_load _ (by rw [act_eval, hx, ho]) (agg_load w t hE ht _ us hl fun j v hv => by
    rw [Addr.add_lit, Nat.add_assoc]; exact (rd_cell h (hc j v hv)).2.1)

theorem opx_rd {d : Nat} {szR : Nat} {s : Value} (i : Nat) (v : Value) (hd : o.dst = some d) (hr : Reads A szR s n vs) (hL : nth L i = some A) (he : ∀ w, RdIs szR s n vs w → (execOp (act T).eval o).run P w = .ok (.value v) w)
    (h : K (T.set d v) L) : OpX P g F o T L K := opx_val v hd (fun w hS => he w (reads_rd hr i hL hS)) h

theorem rd_now {szR : Nat} {s : Value} (i : Nat) (hr : Reads A szR s n vs) (hL : nth L i = some A) (w : World) (hS : SL g (L ++ F) w) : RdIs szR s n vs w := reads_rd hr i hL hS

theorem owes_rd {i m szR : Nat} {js : List Nat} {s : Value} {qs : List (Nat × List Nat × (World → Prop))} (ii : Nat) (hr : Reads A szR s n vs) (hL : nth L ii = some A) (h : Owes g F L qs i) :
    Owes g F L ((m, js, RdIs szR s n vs) :: qs) i :=
  fun w hS => ⟨by split; exact reads_rd hr ii hL hS; trivial, h w hS⟩

theorem recs_at' {α : Type} {cells : α → List Value} {wd : Nat} (hw : ∀ x, (cells x).length = wd) (d : α) {l : List α} {off : Nat} {us : List Value} (i : Nat) (hi : i < l.length) (ho : off = i * wd) (hv : cells (l.getD i d) = us) : ∀ j v, us[j]? = some v → (recs cells l)[off + j]? = some v := by
  subst ho; subst hv
  intro j v hj
  rw [get_recs hw d hi (by have := (List.getElem?_eq_some_iff.1 hj).1; rw [hw] at this; exact this)]; exact hj

theorem recs_at {α : Type} {cells : α → List Value} {wd : Nat} (hw : ∀ x, (cells x).length = wd) (d : α) {l : List α} {i : Nat} (hi : i < l.length) : ∀ j v, (cells (l.getD i d))[j]? = some v → (recs cells l)[i * wd + j]? = some v := by
  intro j v hj
  rw [get_recs hw d hi (by have := (List.getElem?_eq_some_iff.1 hj).1; rw [hw] at this; exact this)]; exact hj
end
end Go.Xg
