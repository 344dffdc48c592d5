/- From what came in to readings under 'old', and back to 'Below'. -/
import Derived.Test.YtmplimmcjdkhlaaLib4
import Derived.ProofKit
import Derived.OpenShut
import Derived.ChangeOld
import Derived.Below
namespace Go.Sl
open Go Go.RowKit

/-- A slice of integers that came in: nil; or it leads to a row of 'cap' cells, the numbers 'zs' (the first 'len' are its elements), each fitting its kind. -/
def IsRow (k : IntKind) (w : World) (a : Option Addr) (len cap : Nat) (zs : List Int) : Prop :=
  (a = none ∧ len = 0 ∧ cap = 0 ∧ zs = []) ∨
  ∃ x, a = some x ∧ len ≤ cap ∧ cap ≤ maxLen ∧ zs.length = cap ∧ (∀ i, i < zs.length → w.cell? (x.add i) = some (.int k (zs.getD i 0))) ∧ ∀ n ∈ zs, (Lit.int k n).wf = true

theorem old_cell {g w w0 : World} {L : List HP} (h : SL g L w) (hb : old w0 ∈ L) {a : Addr} {v : Value} (hc : w0.cell? a = some v) : w.cell? a = some v := by
  have hlt := World.block_lt_of_cell? w0 a hc
  rw [World.cell?_of_block (w := w0) (h.get_old hb hlt)]; exact hc

theorem IsRow.len_cap {k : IntKind} {w : World} {a : Option Addr} {len cap : Nat} {zs : List Int} (h : IsRow k w a len cap zs) : len ≤ cap ∧ cap ≤ maxLen ∧ zs.length = cap := by
  rcases h with ⟨_, h1, h2, h3⟩ | ⟨x, _, h1, h2, h3, _⟩
  · subst h1; subst h2; subst h3; exact ⟨Nat.le_refl _, Nat.zero_le _, rfl⟩
  · exact ⟨h1, h2, h3⟩

theorem IsRow.wf {k : IntKind} {w : World} {a : Option Addr} {len cap : Nat} {zs : List Int} (h : IsRow k w a len cap zs) : ∀ n ∈ zs, (Lit.int k n).wf = true := by
  rcases h with ⟨_, _, _, h3⟩ | ⟨x, _, _, _, _, _, h6⟩
  · subst h3; simp
  · exact h6

theorem wf64 {n : Int} (h : (Lit.int .i64 n).wf = true) : -9223372036854775808 ≤ n ∧ n ≤ 9223372036854775807 := bounds_i64 h

/-- It reads so in every world in which the old memory stands. -/
theorem IsRow.rd {k : IntKind} {w0 : World} {a : Option Addr} {len cap : Nat} {zs : List Int} (h : IsRow k w0 a len cap zs) {g : World} {L : List HP} (hb : old w0 ∈ L) (n : Nat) (hn : n ≤ len) (c : Nat) :
    ∀ w, SL g L w → Rd w 1 (.slice a n c) n ((zs.take n).map (Value.int k)) := by
  intro w hS
  obtain ⟨h1, h2, h3⟩ := h.len_cap
  refine ⟨a, c, rfl, by rw [List.length_map, List.length_take]; omega, fun j u hu => ?_⟩
  rw [List.getElem?_map, List.getElem?_take] at hu
  split at hu
  · rename_i hj
    rcases h with ⟨_, e1, _, _⟩ | ⟨x, rfl, _, _, e3, hc, _⟩
    · omega
    · refine ⟨x, rfl, old_cell hS hb ?_⟩
      rw [hc j (by omega)]
      cases hz : zs[j]? with
      | none => rw [hz] at hu; cases hu
      | some y => rw [hz] at hu; simp at hu; rw [List.getD_eq_getElem?_getD, hz, ← hu]; rfl
  · cases hu

end Go.Sl
