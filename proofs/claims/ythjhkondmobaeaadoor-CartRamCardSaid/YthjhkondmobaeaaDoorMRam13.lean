import Derived.Test.YthjhkondmobaeaaDoorMRam12
import Derived.MapKept
import Derived.WideMake
/- Maps keyed by integers: made, filled, looked up. Over any program. -/
namespace Go.Xg
open Go Go.Sl
set_option linter.unusedVariables false
set_option linter.unusedSimpArgs false

/-- The entries, in the order in which they came. -/
def ents (kd : IntKind) : List (Int × Value) → Nat → List MapEntry
  | [], _ => []
  | (x, v) :: l, n => { key := .int kd x, val := v, born := n } :: ents kd l (n + 1)
/-- A map in a block. -/
def mp (b : Nat) (kd : IntKind) (l : List (Int × Value)) : HP := pts b (.map (ents kd l 0).toArray l.length)
/-- What lies at a key. -/
def look (x : Int) : List (Int × Value) → Option Value
  | [] => none
  | (y, v) :: l => if y = x then some v else look x l
theorem ents_app (kd : IntKind) (x : Int) (v : Value) : ∀ (l : List (Int × Value)) (n : Nat), ents kd (l ++ [(x, v)]) n = ents kd l n ++ [{ key := .int kd x, val := v, born := n + l.length }]
  | [], n => rfl
  | (y, u) :: l, n => by
    show _ :: ents kd (l ++ [(x, v)]) (n + 1) = _ :: (ents kd l (n + 1) ++ _)
    rw [ents_app kd x v l (n + 1)]
    rw [show n + 1 + l.length = n + (l.length + 1) from by omega]
    rfl
theorem find_ents (kd : IntKind) (x : Int) : ∀ (l : List (Int × Value)) (n i : Nat), ∃ o : Option (Nat × Value), Instr.findNow (.int kd) (.int kd x) (ents kd l n) i = some o ∧ o.map (·.2) = look x l
  | [], n, i => ⟨none, rfl, rfl⟩
  | (y, v) :: l, n, i => by
    obtain ⟨o, h1, h2⟩ := find_ents kd x l (n + 1) (i + 1)
    by_cases e : y = x
    · refine ⟨some (i, v), ?_, ?_⟩
      · subst e
        simp [ents, Instr.findNow, Instr.sameNow]
      · simp [look, e]
    · refine ⟨o, ?_, ?_⟩
      · have e2 : (x == y) = false := by simp; exact fun q => e q.symm
        simp [ents, Instr.findNow, Instr.sameNow, e2, h1]
      · simp [look, e, h2]

/-- t is a map from integers of a kind. -/
def mpTy (P : Program) (t : TypeId) (kd : IntKind) (el : TypeId) : Bool := match P.underlying t with
  | some (.map k e) => e == el && (match P.underlying k with
    | some (.int kd') => kd' == kd
    | _ => false)
  | _ => false
/-- The kind of a map's keys, and its elements' type. -/
def mpInfo (P : Program) (t : TypeId) : Option (IntKind × TypeId) := match P.underlying t with
  | some (.map k e) => (match P.underlying k with
    | some (.int kd) => some (kd, e)
    | _ => none)
  | _ => none
theorem mpTy_u {P : Program} {t el : TypeId} {kd : IntKind} (h : mpTy P t kd el = true) : ∃ k, P.underlying t = some (.map k el) ∧ P.underlying k = some (.int kd) := by
  unfold mpTy at h
  split at h
  · rename_i k e he
    simp only [Bool.and_eq_true, beq_iff_eq] at h
    obtain ⟨rfl, h2⟩ := h
    refine ⟨k, he, ?_⟩
    split at h2
    · rename_i kd' hk
      rw [hk]
      simp only [beq_iff_eq] at h2
      rw [h2]
    · cases h2
  · cases h
section
variable {P : Program} {g : World} {F : List HP} {T : List Value} {L : List HP} {K : List Value → List HP → Prop}
theorem exec_makeMap {w : World} (ρ : Operand → Value) {dst : Option Tmp} {t ty : TypeId} {pos : String} {after : Array Edge} {gd : Option (Nat × Bool)} :
    (execOp ρ { dst, op := .makeMap t none, type := ty, pos, after, guard := gd }).run P w = .ok (.value (.map (some w.heap.size))) (w.alloc (.map #[] 0)) := by
  simp [execOp, Instr.makeMap]
theorem opx_makeMap {d : Nat} {t ty : TypeId} {pos : String} {after : Array Edge} {gd : Option (Nat × Bool)} (kd : IntKind)
    (h : ∀ b, K (T.set d (.map (some b))) (mp b kd [] :: L)) : OpX P g F { dst := some d, op := .makeMap t none, type := ty, pos, after, guard := gd } T L K := by
  refine ⟨fun w hS => op_value (exec_makeMap _) ?_⟩
  rw [act_put]
  exact ⟨_, _, rfl, hS.alloc _, h _⟩
theorem opx_insert {t ty el : TypeId} {m x y : Operand} {pos : String} {after : Array Edge} {gd : Option (Nat × Bool)} {b : Nat} {kd : IntKind} {k : Int} {v : Value} {l : List (Int × Value)} (i : Nat)
    (hL : nth L i = some (mp b kd l)) (hu : mpTy P t kd el = true) (hm : ev T m = .map (some b)) (hx : ev T x = .int kd k) (hy : ev T y = v) (hn : look k l = none)
    (h : K T (L.set i (mp b kd (l ++ [(k, v)])))) : OpX P g F { dst := none, op := .insert t m x y, type := ty, pos, after, guard := gd } T L K := by
  constructor
  intro w hS
  obtain ⟨kt, hu1, hu2⟩ := mpTy_u hu
  have h1 : SL g (pts b (.map (ents kd l 0).toArray l.length) :: _) w := sl_at i hL hS
  have hb : w.heap[b]? = some (.map (ents kd l 0).toArray l.length) := h1.get (.head _)
  obtain ⟨o, hf, ho⟩ := find_ents kd k l 0 0
  have ho' : o = none := by cases o with
    | none => rfl
    | some q => rw [hn] at ho; cases ho
  subst ho'
  have hc : (Instr.checkKey false 10000 kt (.int kd k)).run P w = .ok () w := MapKept.run_checkKey (k := .int kd k) hu2 (by simp [MapKept.IsKey]) false 9999
  have hr : (Instr.mapUpdate t (.map (some b)) (.int kd k) v).run P w = .ok () { w with heap := w.heap.setIfInBounds b (.map ((ents kd l 0).toArray.push { key := .int kd k, val := v, born := l.length }) (l.length + 1)) } := by
    simp [Instr.mapUpdate, run_underlying hu1, MapKept.run_getObj_map hb, hc, MapKept.run_findKey hu2 hf, MapKept.run_setObj_map _ hb, Result.andThen]
  have h2 : SL g (mp b kd (l ++ [(k, v)]) :: _) _ := SL.put h1 (w' := { w with heap := w.heap.setIfInBounds b (.map ((ents kd l 0).toArray.push { key := .int kd k, val := v, born := l.length }) (l.length + 1)) }) (o' := .map (ents kd (l ++ [(k, v)]) 0).toArray (l ++ [(k, v)]).length) rfl rfl rfl (by
      show (w.heap.setIfInBounds b _)[b]? = _
      rw [(MapKept.heap_set hb).1, ents_app]
      simp) fun k' hk' => (MapKept.heap_set hb).2 k' hk'
  refine op_skip (w' := { w with heap := w.heap.setIfInBounds b (.map ((ents kd l 0).toArray.push { key := .int kd k, val := v, born := l.length }) (l.length + 1)) }) ?_ ⟨T, _, rfl, sl_back i hL h2, h⟩
  simp only [execOp, act_eval, hm, hx, hy]
  simp [hr]
theorem opx_lookup {d : Nat} {t ty el : TypeId} {x y : Operand} {pos : String} {after : Array Edge} {gd : Option (Nat × Bool)} {b : Nat} {kd : IntKind} {k : Int} {l : List (Int × Value)} {z : Value} {sz by_ : Nat} (i : Nat)
    (hL : nth L i = some (mp b kd l)) (hu : mpTy P t kd el = true) (hE : El P el z sz by_) (hx : ev T x = .map (some b)) (hy : ev T y = .int kd k)
    (h : K (T.set d (.tuple #[(look k l).getD z, .bool (look k l).isSome])) L) : OpX P g F { dst := some d, op := .lookup t x y true, type := ty, pos, after, guard := gd } T L K := by
  constructor
  intro w hS
  obtain ⟨kt, hu1, hu2⟩ := mpTy_u hu
  have h1 : SL g (pts b (.map (ents kd l 0).toArray l.length) :: _) w := sl_at i hL hS
  have hb : w.heap[b]? = some (.map (ents kd l 0).toArray l.length) := h1.get (.head _)
  obtain ⟨o, hf, ho⟩ := find_ents kd k l 0 0
  have hc : ∀ e, (Instr.checkKey e 10000 kt (.int kd k)).run P w = .ok () w := fun e => MapKept.run_checkKey (k := .int kd k) hu2 (by simp [MapKept.IsKey]) e 9999
  have hr : (Instr.lookup t (.map (some b)) (.int kd k) true).run P w = .ok (.tuple #[(look k l).getD z, .bool (look k l).isSome]) w := by
    rw [← ho]
    obtain ⟨i, hi, hz, rfl, rfl, hzs⟩ := hE
    cases o with
    | none => simp [Instr.lookup, run_underlying hu1, MapKept.run_getObj_map hb, hc, MapKept.run_findKey hu2 hf, Result.andThen, zeroValue, typeInfo, hi, hz]
    | some q => simp [Instr.lookup, run_underlying hu1, MapKept.run_getObj_map hb, hc, MapKept.run_findKey hu2 hf, Result.andThen]
  refine op_value (v := .tuple #[(look k l).getD z, .bool (look k l).isSome]) (w' := w) ?_ ?_
  · simp only [execOp, act_eval, hx, hy]
    simp [hr]
  · rw [act_put]
    exact ⟨_, _, rfl, hS, h⟩
end
end Go.Xg
