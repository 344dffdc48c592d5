/- Symbolic running: parts of slices; reading. Over any program. -/
import Derived.Test.YtmplimmcjdkhlaaG4
namespace Go.Xg
open Go Go.Sl
set_option linter.unusedVariables false

/-- The address of a slice's part that begins at l. -/
def subA (a : Option Addr) (c l sz : Nat) : Option Addr := if c = l then a else a.map (·.add (l * sz))

/-- Where this part stands, the slice reads so. -/
structure Reads (A : HP) (sz : Nat) (s : Value) (n : Nat) (vs : List Value) : Prop where
  run : ∀ (g : World) (F : List HP) (w : World), SL g (A :: F) w → Rd w sz s n vs

section
variable {P : Program} {f : FuncId} {g : World} {F : List HP} {R : Ending → World → Prop} {k : List Item} {T T' : List Value} {L L' : List HP} {o : Oper} {K : List Value → List HP → Prop}
variable {E sz n c : Nat} {a : Option Addr} {vs : List Value} {w : World} {A : HP} {s : Value}

theorem reads_rd (hr : Reads A sz s n vs) (i : Nat) (hL : nth L i = some A) (hS : SL g (L ++ F) w) : Rd w sz s n vs := hr.run g _ w (sl_at i hL hS)

theorem reads_own : Reads (ownS E sz (.slice a n c) n vs) sz (.slice a n c) n vs := ⟨fun _ _ _ hS => hS.own_rd⟩

theorem reads_part (l h : Nat) (hl : l ≤ h) (hh : h ≤ n) : Reads (ownS E sz (.slice a n c) n vs) sz (.slice (subA a c l sz) (h - l) (c - l)) (h - l) ((vs.drop (l * sz)).take ((h - l) * sz)) := by
  refine ⟨fun g F w hS => ?_⟩
  have ho := own_some (L := [ownS E sz (.slice a n c) n vs]) (F := F) hS 0 rfl
  obtain ⟨h1, h2, h3, h4, h5, h6⟩ := ho
  refine ⟨_, _, rfl, ?_, fun j u hu => ?_⟩
  · rw [List.length_take, List.length_drop, h3, ← Nat.sub_mul]
    exact Nat.min_eq_left (Nat.mul_le_mul_right _ (by omega))
  · rw [List.getElem?_take] at hu
    split at hu
    · rename_i hj
      rw [List.getElem?_drop] at hu
      have hlt : 0 < h - l := by
        rcases Nat.eq_zero_or_pos (h - l) with h0 | h0
        · rw [h0, Nat.zero_mul] at hj; omega
        · exact h0
      have ha := h4 (by omega)
      have hc := h5 _ _ hu
      unfold subA
      rw [if_neg (by omega)]
      refine ⟨(⟨blk a, 0, none⟩ : Addr).add (l * sz), by rw [ha]; rfl, ?_⟩
      rw [Addr.add_lit, Addr.add_lit, Nat.zero_add]; exact hc
    · cases hu

theorem reads_ints_part {kd : IntKind} {xs : List Int} (l h : Nat) (hl : l ≤ h) (hh : h ≤ xs.length) : Reads (ints E kd a c xs) 1 (.slice (subA a c l 1) (h - l) (c - l)) (h - l) (((xs.drop l).take (h - l)).map (Value.int kd)) := by
  have := reads_part (E := E) (sz := 1) (a := a) (c := c) (n := xs.length) (vs := xs.map (Value.int kd)) l h hl hh
  rwa [Nat.mul_one, Nat.mul_one, ← List.map_drop, ← List.map_take] at this

/-- A slice that reads so: its length, and nil. -/
theorem at_reads {b : Option Addr} {m d : Nat} (i : Nat) (hr : Reads A sz (.slice b m d) n vs) (hL : nth L i = some A) (h : vs.length = n * sz → (b = none → vs = []) → At P f g F R k T L) : At P f g F R k T L :=
  ⟨fun w hS => by
    obtain ⟨a, c, e, h1, h2⟩ := reads_rd hr i hL hS
    cases e
    refine (h h1 fun hb => ?_).run w hS
    subst hb
    cases vs with
    | nil => rfl
    | cons v vs => obtain ⟨ad, h, _⟩ := h2 0 v rfl; cases h⟩

theorem at_nil_ints (E : TypeId) (kd : IntKind) (h : At P f g F R k T (ints E kd none 0 [] :: L)) : At P f g F R k T L :=
  h.sl fun w hS => hS.own_nil E 1

theorem run_sl {d : Option Tmp} {t ty elem : TypeId} {x lo hi : Operand} {pos : String} {after : Array Edge} {gd : Option (Nat × Bool)} {k1 k2 : IntKind} {e1 e2 : Int} {len : Nat} (sz l h : Nat)
    (hu : slTy P t elem = true) (hs : szIs P elem sz = true) (hx : ev T x = .slice a len c) (h1 : ev T lo = .int k1 e1) (h2 : ev T hi = .int k2 e2) (he1 : e1 = l) (he2 : e2 = h) (hlh : l ≤ h) (hhc : h ≤ c) (w : World) :
    (execOp (act T).eval { dst := d, op := .slice t x (some lo) (some hi) none, type := ty, pos, after, guard := gd }).run P w = .ok (.value (.slice (subA a c l sz) (h - l) (c - l))) w := by
  obtain ⟨i, hi', rfl⟩ := szIs_info hs
  subst he1; subst he2
  have hu := slTy_u hu
  simp [execOp, Instr.sliceAt, Instr.slice, Instr.sliceBounds, Instr.sliceBound, act_eval, hx, h1, h2, asIntOf, run_underlying hu, sizeOf, typeInfo, hi', hhc, hlh, subA]

theorem run_sl_lo {d : Option Tmp} {t ty elem : TypeId} {x lo : Operand} {pos : String} {after : Array Edge} {gd : Option (Nat × Bool)} {k1 : IntKind} {e1 : Int} {len : Nat} (sz l : Nat)
    (hu : slTy P t elem = true) (hs : szIs P elem sz = true) (hx : ev T x = .slice a len c) (h1 : ev T lo = .int k1 e1) (he1 : e1 = l) (hlh : l ≤ len) (w : World) :
    (execOp (act T).eval { dst := d, op := .slice t x (some lo) none none, type := ty, pos, after, guard := gd }).run P w = .ok (.value (.slice (subA a c l sz) (len - l) (c - l))) w := by
  obtain ⟨i, hi', rfl⟩ := szIs_info hs
  subst he1
  have hu := slTy_u hu
  simp [execOp, Instr.sliceAt, Instr.slice, Instr.sliceBounds, Instr.sliceBound, act_eval, hx, h1, asIntOf, run_underlying hu, sizeOf, typeInfo, hi', hlh, subA]

theorem run_equal_nil {t elem len : Nat} (hu : P.underlying t = some (.slice elem)) (w : World) : (Op.equal t (.slice a len c) (.slice none 0 0)).run P w = .ok a.isNone w := by
  unfold Op.equal
  rw [show Op.maxDepth = 9999 + 1 from rfl]
  unfold Op.equalIn
  cases a <;> simp [run_underlying hu]

theorem run_slnil {d : Option Tmp} {t ty ty2 elem : TypeId} {x y : Operand} {pos : String} {after : Array Edge} {gd : Option (Nat × Bool)} {len : Nat} (hu : slTy P t elem = true) (hx : ev T x = .slice a len c) (hy : ev T y = .slice none 0 0) (w : World) :
    (execOp (act T).eval { dst := d, op := .binOp .eql t x y ty2, type := ty, pos, after, guard := gd }).run P w = .ok (.value (.bool a.isNone)) w := by
  have h := run_equal_nil (a := a) (c := c) (len := len) (slTy_u hu) w
  simp only [execOp, eqGuard, act_eval, hx, hy, binOp]
  simp [h]

theorem run_slnnil {d : Option Tmp} {t ty ty2 elem : TypeId} {x y : Operand} {pos : String} {after : Array Edge} {gd : Option (Nat × Bool)} {len : Nat} (hu : slTy P t elem = true) (hx : ev T x = .slice a len c) (hy : ev T y = .slice none 0 0) (w : World) :
    (execOp (act T).eval { dst := d, op := .binOp .neq t x y ty2, type := ty, pos, after, guard := gd }).run P w = .ok (.value (.bool (!a.isNone))) w := by
  have h := run_equal_nil (a := a) (c := c) (len := len) (slTy_u hu) w
  simp only [execOp, eqGuard, act_eval, hx, hy, binOp]
  simp [h]

theorem map_add0 (a : Option Addr) : a.map (·.add 0) = a := by cases a <;> simp [Addr.add]

theorem run_sl_hi {d : Option Tmp} {t ty elem : TypeId} {x hi : Operand} {pos : String} {after : Array Edge} {gd : Option (Nat × Bool)} {k2 : IntKind} {e2 : Int} {len : Nat} (sz h : Nat)
    (hu : slTy P t elem = true) (hs : szIs P elem sz = true) (hx : ev T x = .slice a len c) (h2 : ev T hi = .int k2 e2) (he2 : e2 = h) (hhc : h ≤ c) (w : World) :
    (execOp (act T).eval { dst := d, op := .slice t x none (some hi) none, type := ty, pos, after, guard := gd }).run P w = .ok (.value (.slice a h c)) w := by
  obtain ⟨i, hi', rfl⟩ := szIs_info hs
  subst he2
  have hu := slTy_u hu
  have := map_add0 a
  simp [execOp, Instr.sliceAt, Instr.slice, Instr.sliceBounds, Instr.sliceBound, act_eval, hx, h2, asIntOf, run_underlying hu, sizeOf, typeInfo, hi', hhc]
  exact fun _ => this
end
end Go.Xg
