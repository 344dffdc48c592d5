import Derived.Test.YthjhkondmobaeaaMChecks8
import Derived.Lib.Overlaps
/- Symbolic running: what slices.Insert does: append(x[:i], make(..)...) that must grow, a slice made longer into its room, copy into a part of it, slices.overlaps. Over any program. -/
namespace Go.Xg
open Go Go.Sl
set_option linter.unusedVariables false
section
variable {P : Program} {f : FuncId} {g : World} {F : List HP} {R : Ending → World → Prop} {k : List Item} {T : List Value} {L : List HP} {K : List Value → List HP → Prop}

/-- copy into a row. -/
theorem SL_copy_t {g w : World} {L : List HP} (P : Program) (dT sT ty e : TypeId) (z : Value) (by_ : Nat) (hu : P.underlying dT = some (.slice e)) (hE : El P e z 1 by_)
    {b o dLen dCap : Nat} {E' : TypeId} {cs vs : List Value} {x : Value} {k : Nat} (h : SL g (row b E' cs :: L) w) (hx : Rd w 1 x k vs) (h1 : ∀ u ∈ vs.take dLen, u.oneCell' = true) (hfit : o + Nat.min k dLen ≤ cs.length) :
    ∃ w', (Builtin.copy_ #[dT, sT] ty #[.slice (some ⟨b, o, none⟩) dLen dCap, x]).run P w = .ok (goInt (Nat.min k dLen : Nat)) w' ∧
      SL g (row b E' (cs.take o ++ vs.take dLen ++ cs.drop (o + Nat.min k dLen)) :: L) w' := by
  obtain ⟨i, hi, hz, hsz, rfl, hzs⟩ := hE
  obtain ⟨xa, xc, rfl, hl, hc⟩ := hx
  have hlen : (vs.take dLen).length = Nat.min k dLen := by rw [List.length_take]; have : Nat.min k dLen = min k dLen := rfl; omega
  have hf : (Builtin.firstCells 1 (Nat.min k dLen) (.slice xa k xc)).run P w = .ok (vs.take dLen).toArray w := by
    have : Rd w 1 (.slice xa (Nat.min k dLen) xc) (Nat.min k dLen) (vs.take dLen) := by
      refine ⟨xa, xc, rfl, by omega, fun j u hu => ?_⟩
      refine hc j u ?_
      rw [List.getElem?_take] at hu
      split at hu
      · exact hu
      · cases hu
    have := this.first (P := P)
    cases xa <;> exact this
  have hst := run_storeCells_at P b o E' (vs.take dLen) 0 cs.toArray w (h.get (.head _)) (by simp only [Nat.add_zero, List.size_toArray]; rw [hlen]; exact hfit) h1
  simp only [Nat.add_zero] at hst
  refine ⟨_, ?_, h.setRow _⟩
  simp [Builtin.copy_, run_underlying hu, Builtin.lenOf, sizeOf, typeInfo, hi, hsz, hf, hst, hlen]


/-- copy into a part of what one owns: any values. -/
theorem opx_copy_own {d : Nat} {dT sT ty elem : TypeId} {x y : Operand} {pos : String} {after : Array Edge} {gd : Option (Nat × Bool)} {a ax : Option Addr} {n c cx : Nat} {yv : Value} {kd : IntKind} {vs ys : List Value} (i by_ o m : Nat) (vs' : List Value) (r : Int)
    (hL : nth L i = some (ownS elem 1 (.slice a n c) n vs)) (hu : slTy P dT elem = true) (hE : intTy P elem kd by_ = true) (hx : ev T x = .slice ax m cx) (hax : ∀ b, a = some ⟨b, 0, none⟩ → ax = some ⟨b, o, none⟩) (hy : ev T y = yv)
    (hr : ∀ w, SL g (L ++ F) w → Rd w 1 yv ys.length ys) (h1 : ∀ u ∈ ys.take m, u.oneCell' = true) (hn : 0 < n) (hvn : vs.length = n) (hom : o + m ≤ n) (hv : vs.take o ++ ys.take m ++ vs.drop (o + min ys.length m) = vs') (hl : vs'.length = n) (hrv : r = ((min ys.length m : Nat) : Int))
    (h : K (T.set d (.int .i64 r)) (L.set i (ownS elem 1 (.slice a n c) n vs'))) :
    OpX P g F { dst := some d, op := .call { callee := .builtin .copy, args := #[x, y], argTypes := #[dT, sT] }, type := ty, pos, after, guard := gd } T L K := by
  subst hrv
  constructor
  intro w hS
  have hR := hr w hS
  obtain ⟨hl1, ⟨e, h0, _⟩ | ⟨b, cap, sp, e, hn', hm, hsp, hrw⟩⟩ := (sl_at i hL hS).own_cases
  · omega
  · cases e
    have hx' := hax b rfl
    subst hx'
    have hmin : Nat.min ys.length m = min ys.length m := rfl
    obtain ⟨w', hr', h'⟩ := SL_copy_t P dT sT ty elem (.int kd 0) by_ (slTy_u hu) (intTy_el hE) (dLen := m) (dCap := cx) (o := o) hrw hR h1 (by rw [List.length_append]; omega)
    refine op_value (exec_copy _ (by rw [act_eval, act_eval, hx, hy]; exact hr')) ⟨_, _, by rw [act_put]; rfl, sl_back i hL ?_, h⟩
    have e1 : (vs ++ sp).take o ++ ys.take m ++ (vs ++ sp).drop (o + Nat.min ys.length m) = vs' ++ sp := by
      rw [List.take_append_of_le_length (by omega), List.drop_append_of_le_length (by omega), ← hv, hmin]
      simp
    rw [e1] at h'
    exact SL.own_some h' (by omega) hn' hm hsp

end
end Go.Xg
