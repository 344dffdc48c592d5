/- The picture's laws: memory. -/
import Derived.Test.YtkfclamiendamaaKV4
namespace Go.Proofs.Ytkfclamiendamaa
open Go.Sl Go.Xg
set_option linter.unusedVariables false
set_option linter.unusedSimpArgs false
set_option maxHeartbeats 4000000
set_option maxRecDepth 100000

abbrev bts (a : Option Addr) (c : Nat) (xs : List Int) : HP := ints 5 .u8 a c xs

theorem getD_set (xs : List Int) (i j : Nat) (v : Int) (hi : i < xs.length) : (xs.set i v).getD j 0 = if j = i then v else xs.getD j 0 := by
  simp only [List.getD, List.getElem?_set]
  by_cases h : i = j
  · subst h; simp [hi]
  · simp [h, Ne.symm h]

abbrev rgL : List Int := [65346, 65347, 65349, 65351, 65352, 65353, 65354, 65355]
theorem rg_bd {i : Nat} (h : i < 8) : 65346 ≤ List.getD [(65346 : Int), 65347, 65349, 65351, 65352, 65353, 65354, 65355] i 0 ∧ List.getD [(65346 : Int), 65347, 65349, 65351, 65352, 65353, 65354, 65355] i 0 ≤ 65355 ∧
    List.getD [(65346 : Int), 65347, 65349, 65351, 65352, 65353, 65354, 65355] i 0 ≠ 65348 ∧ List.getD [(65346 : Int), 65347, 65349, 65351, 65352, 65353, 65354, 65355] i 0 ≠ 65350 := by
  have : ∀ i : Fin 8, 65346 ≤ List.getD [(65346 : Int), 65347, 65349, 65351, 65352, 65353, 65354, 65355] i.val 0 ∧ List.getD [(65346 : Int), 65347, 65349, 65351, 65352, 65353, 65354, 65355] i.val 0 ≤ 65355 ∧
    List.getD [(65346 : Int), 65347, 65349, 65351, 65352, 65353, 65354, 65355] i.val 0 ≠ 65348 ∧ List.getD [(65346 : Int), 65347, 65349, 65351, 65352, 65353, 65354, 65355] i.val 0 ≠ 65350 := by decide
  exact this ⟨i, h⟩
theorem rg_inj {i j : Nat} (hi : i < 8) (hj : j < 8) (hne : j ≠ i) : (List.getD [(65346 : Int), 65347, 65349, 65351, 65352, 65353, 65354, 65355] j 0 - 65344).toNat ≠ (List.getD [(65346 : Int), 65347, 65349, 65351, 65352, 65353, 65354, 65355] i 0 - 65344).toNat := by
  have : ∀ i j : Fin 8, j ≠ i → (List.getD [(65346 : Int), 65347, 65349, 65351, 65352, 65353, 65354, 65355] j.val 0 - 65344).toNat ≠ (List.getD [(65346 : Int), 65347, 65349, 65351, 65352, 65353, 65354, 65355] i.val 0 - 65344).toNat := by decide
  exact this ⟨i, hi⟩ ⟨j, hj⟩ (fun h => hne (by simpa using h))

end Go.Proofs.Ytkfclamiendamaa
