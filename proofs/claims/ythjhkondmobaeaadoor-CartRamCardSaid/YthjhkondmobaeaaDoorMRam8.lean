import Derived.Test.YthjhkondmobaeaaDoorMRam7
import Derived.Deep.Strs
import Derived.Deep.Slices
import Derived.Carry
/- From a start where one variable's block stands apart; records read in an argument. Over any program. -/
namespace Go.Xg
open Go Go.Sl
set_option linter.unusedVariables false

/-- All that was there in a world, but for one block. -/
def oldBut (b : Nat) (w0 : World) : HP := fun m => m = fun k => if k = b then none else w0.heap[k]?

theorem start_but {w : World} {b : Nat} {o : Obj} (h : w.heap[b]? = some o) : SL w [pts b o, oldBut b w] w := by
  refine ⟨rfl, rfl, rfl, fun k => w.heap[k]?, fun _ _ h => h, _, _, rfl, ⟨_, fun _ => none, rfl, fun _ => rfl, fun _ => .inr rfl, rfl⟩, ?_, ?_⟩
  · intro k
    by_cases e : k = b
    · right; simp [join, e]
    · left; simp [e]
  · funext k
    by_cases e : k = b
    · subst e; simp [join, h]
    · simp only [join, e, if_false]; cases w.heap[k]? <;> rfl

theorem get_but {g w w0 : World} {L : List HP} {b : Nat} (h : SL g L w) (hb : oldBut b w0 ∈ L) {k : Nat} (hk : k < w0.heap.size) (hne : k ≠ b) : w.heap[k]? = w0.heap[k]? := by
  obtain ⟨_, _, _, m, hm, hs⟩ := h
  obtain ⟨x, hx, hxx⟩ := seps_mem hb hs
  rw [Array.getElem?_eq_getElem hk]
  exact hm k _ (hxx k _ (by rw [hx]; simp [hne, Array.getElem?_eq_getElem hk]))

theorem below_but {w0 w : World} {L : List HP} {b : Nat} {o : Obj} (h : SL w0 L w) (h1 : pts b o ∈ L) (h2 : oldBut b w0 ∈ L) (ho : w0.heap[b]? = some o) : RowKit.Below w0.heap.size w0 w := by
  have hk : ∀ k, k < w0.heap.size → w.heap[k]? = w0.heap[k]? := fun k hk => by
    by_cases e : k = b
    · subst e
      obtain ⟨_, _, _, m, hm, hs⟩ := h
      obtain ⟨x, hx, hxx⟩ := seps_mem h1 hs
      rw [ho]
      exact hm k _ (hxx k _ (by rw [hx]; simp))
    · exact get_but h h2 hk e
  refine ⟨h.1, h.2.1, h.2.2.1, ?_, hk⟩
  rcases Nat.lt_or_ge w.heap.size w0.heap.size with hlt | hge
  · have := hk _ hlt
    rw [Array.getElem?_eq_getElem hlt, Array.getElem?_eq_none (Nat.le_refl _)] at this
    cases this
  · exact hge

theorem cell_but {g w w0 : World} {L : List HP} {b : Nat} (h : SL g L w) (hb : oldBut b w0 ∈ L) {a : Addr} {v : Value} (hc : w0.cell? a = some v) (hne : a.block ≠ b) : w.cell? a = some v := by
  have hlt := World.block_lt_of_cell? w0 a hc
  rw [World.cell?_of_block (w := w0) (get_but h hb hlt hne)]; exact hc

theorem bl_add (a : Addr) (i : Nat) : (a.add i).block = a.block := by unfold Addr.add; split <;> rfl

/-- Cells that the world holds, none of them in the block that stands apart. -/
theorem reads_but {w : World} {b sz n c : Nat} {a : Option Addr} {vs : List Value} (hl : vs.length = n * sz) (h : ∀ j u, vs[j]? = some u → ∃ ad, a = some ad ∧ ad.block ≠ b ∧ w.cell? (ad.add j) = some u) :
    Reads (oldBut b w) sz (.slice a n c) n vs :=
  ⟨fun g F w' hS => ⟨a, c, rfl, hl, fun j u hu => by
    obtain ⟨ad, h1, h2, h3⟩ := h j u hu
    exact ⟨ad, h1, cell_but (b := b) hS (.head _) h3 (by rw [bl_add]; exact h2)⟩⟩⟩

end Go.Xg
