/- Arguments: slices of integers, read. Over any program. -/
import Derived.Test.YtmplimmcjdkhlaaG9
import Derived.Test.YtmplimmcjdkhlaaG11
import Derived.ChangeMaps5
namespace Go.Xg
open Go Go.Sl
set_option linter.unusedVariables false

theorem open_ints_rd {H : Type} {enc : TypeId × Value → H} {P : Program} {w : World} {sp : Nat → Bool} {held : Bool} {t e : TypeId} {kd : IntKind} {a : Option Addr} {n c : Nat} {d : DataW H} {ps : List MemPlace}
    (ht : P.underlying t = some (.slice e)) (he : P.underlying e = some (.int kd)) (hce : P.cellsOf e = 1) (h : DataW.Trod enc P w 0 sp held t (.slice a n c) d ps) :
    ∃ xs : List Int, xs.length = n ∧ n ≤ maxLen ∧ (∀ x ∈ xs, (Lit.int kd x).wf = true) ∧ ∀ j u, (xs.map (Value.int kd))[j]? = some u → ∃ ad, a = some ad ∧ w.cell? (ad.add j) = some u := by
  obtain ⟨fuel, hf⟩ := h
  rcases ChangeShapes.open_ints ht he hce hf with ⟨hcs, _⟩ | ⟨x, l, c', zs, hcs, _, hl, hm, hz, _, hcell, hwz⟩
  · simp [Value.cells] at hcs
    obtain ⟨rfl, rfl, rfl⟩ := hcs
    exact ⟨[], rfl, Nat.zero_le _, by simp, by simp⟩
  · simp [Value.cells] at hcs
    obtain ⟨rfl, rfl, rfl⟩ := hcs
    have hle : n ≤ zs.length := by rw [hz]; split <;> omega
    refine ⟨zs.take n, by simp [hle], by omega, fun y hy => hwz y (List.mem_of_mem_take hy), fun j u hu => ⟨x, rfl, ?_⟩⟩
    rw [List.getElem?_map, List.getElem?_take] at hu
    split at hu
    · rename_i hj
      rw [hcell j (by omega)]
      rw [List.getElem?_eq_getElem (by omega)] at hu
      simp at hu
      rw [← hu]
      simp [List.getD, show j < zs.length by omega]
    · cases hu

/-- Cells that the world holds. -/
theorem reads_old {w : World} {sz n c : Nat} {a : Option Addr} {vs : List Value} (hl : vs.length = n * sz) (h : ∀ j u, vs[j]? = some u → ∃ ad, a = some ad ∧ w.cell? (ad.add j) = some u) :
    Reads (old w) sz (.slice a n c) n vs :=
  ⟨fun g F w' hS => ⟨a, c, rfl, hl, fun j u hu => by
    obtain ⟨ad, h1, h2⟩ := h j u hu
    exact ⟨ad, h1, old_cell hS (.head _) h2⟩⟩⟩

theorem wf_u8 {x : Int} (h : (Lit.int .u8 x).wf = true) : 0 ≤ x ∧ x ≤ 255 := by
  simp [Lit.wf, IntKind.min, IntKind.max, IntKind.signed, IntKind.bits] at h
  omega

end Go.Xg
