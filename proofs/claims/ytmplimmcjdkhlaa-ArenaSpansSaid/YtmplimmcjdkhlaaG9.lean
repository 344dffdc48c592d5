/- From a start where one variable's block stands apart; records read in an argument. Over any program. -/
import Derived.Test.YtmplimmcjdkhlaaG8
import Derived.Test.YtmplimmcjdkhlaaLib5
import Derived.Deep.Strs
import Derived.Deep.Slices
import Derived.Carry
namespace Go.Xg
open Go Go.Sl
set_option linter.unusedVariables false

/-- All that was there in a world, but for one block. -/
def oldBut (b : Nat) (w0 : World) : HP := fun m => m = fun k => if k = b then none else w0.heap[k]?

theorem start_but {w : World} {b : Nat} {o : Obj} (h : w.heap[b]? = some o) : SL w [pts b o, oldBut b w] w := by
  refine ⟨rfl, rfl, rfl, fun k => w.heap[k]?, fun _ _ h => h, _, _, rfl, ⟨_, fun _ => none, rfl, fun _ => rfl, fun _ => .inr rfl, rfl⟩, ?_, ?_⟩
  · intro k
    by_cases e : k = b
    · right; simp [join, e]
    · left; simp [e]
  · funext k
    by_cases e : k = b
    · subst e; simp [join, h]
    · simp only [join, e, if_false]; cases w.heap[k]? <;> rfl

theorem get_but {g w w0 : World} {L : List HP} {b : Nat} (h : SL g L w) (hb : oldBut b w0 ∈ L) {k : Nat} (hk : k < w0.heap.size) (hne : k ≠ b) : w.heap[k]? = w0.heap[k]? := by
  obtain ⟨_, _, _, m, hm, hs⟩ := h
  obtain ⟨x, hx, hxx⟩ := seps_mem hb hs
  rw [Array.getElem?_eq_getElem hk]
  exact hm k _ (hxx k _ (by rw [hx]; simp [hne, Array.getElem?_eq_getElem hk]))

theorem below_but {w0 w : World} {L : List HP} {b : Nat} {o : Obj} (h : SL w0 L w) (h1 : pts b o ∈ L) (h2 : oldBut b w0 ∈ L) (ho : w0.heap[b]? = some o) : RowKit.Below w0.heap.size w0 w := by
  have hk : ∀ k, k < w0.heap.size → w.heap[k]? = w0.heap[k]? := fun k hk => by
    by_cases e : k = b
    · subst e
      obtain ⟨_, _, _, m, hm, hs⟩ := h
      obtain ⟨x, hx, hxx⟩ := seps_mem h1 hs
      rw [ho]
      exact hm k _ (hxx k _ (by rw [hx]; simp))
    · exact get_but h h2 hk e
  refine ⟨h.1, h.2.1, h.2.2.1, ?_, hk⟩
  rcases Nat.lt_or_ge w.heap.size w0.heap.size with hlt | hge
  · have := hk _ hlt
    rw [Array.getElem?_eq_getElem hlt, Array.getElem?_eq_none (Nat.le_refl _)] at this
    cases this
  · exact hge

theorem cell_but {g w w0 : World} {L : List HP} {b : Nat} (h : SL g L w) (hb : oldBut b w0 ∈ L) {a : Addr} {v : Value} (hc : w0.cell? a = some v) (hne : a.block ≠ b) : w.cell? a = some v := by
  have hlt := World.block_lt_of_cell? w0 a hc
  rw [World.cell?_of_block (w := w0) (get_but h hb hlt hne)]; exact hc

theorem bl_add (a : Addr) (i : Nat) : (a.add i).block = a.block := by unfold Addr.add; split <;> rfl

/-- Cells that the world holds, none of them in the block that stands apart. -/
theorem reads_but {w : World} {b sz n c : Nat} {a : Option Addr} {vs : List Value} (hl : vs.length = n * sz) (h : ∀ j u, vs[j]? = some u → ∃ ad, a = some ad ∧ ad.block ≠ b ∧ w.cell? (ad.add j) = some u) :
    Reads (oldBut b w) sz (.slice a n c) n vs :=
  ⟨fun g F w' hS => ⟨a, c, rfl, hl, fun j u hu => by
    obtain ⟨ad, h1, h2, h3⟩ := h j u hu
    exact ⟨ad, h1, cell_but (b := b) hS (.head _) h3 (by rw [bl_add]; exact h2)⟩⟩⟩

/-- A slice of records of three numbers, opened. -/
theorem open_recs3 {H : Type} {enc : TypeId × Value → H} {P : Program} {w : World} {sp : Nat → Bool} {held : Bool} {t e ti : TypeId} {f0 f1 f2 : Field} {kd : IntKind} {a : Option Addr} {n c : Nat} {d : DataW H} {ps : List MemPlace}
    (ht : P.underlying t = some (.slice e)) (he : P.underlying e = some (.struct #[f0, f1, f2])) (h0 : f0.type = ti ∧ f1.type = ti ∧ f2.type = ti) (ho : f0.offset = 0 ∧ f1.offset = 1 ∧ f2.offset = 2)
    (hi : P.underlying ti = some (.int kd)) (hci : P.cellsOf ti = 1) (hce : P.cellsOf e = 3) (h : DataW.Trod enc P w 0 sp held t (.slice a n c) d ps) :
    ∃ l : List (Int × Int × Int), l.length = n ∧ n ≤ maxLen ∧ (∀ x ∈ l, (Lit.int kd x.1).wf = true ∧ (Lit.int kd x.2.1).wf = true ∧ (Lit.int kd x.2.2).wf = true) ∧
      ∀ j u, (recs (fun x : Int × Int × Int => [.int kd x.1, .int kd x.2.1, .int kd x.2.2]) l)[j]? = some u → ∃ ad, a = some ad ∧ w.cell? (ad.add j) = some u := by
  obtain ⟨fuel, hf⟩ := h
  rcases Deep.open_slice ht hf with ⟨hcs, _⟩ | ⟨x, l, c', m, k, D, Pl, hcs, _, hl, hm, hmm, _, hel⟩
  · simp [Value.cells] at hcs
    obtain ⟨rfl, rfl, rfl⟩ := hcs
    exact ⟨[], rfl, Nat.zero_le _, by simp, by simp [recs]⟩
  · simp [Value.cells] at hcs
    obtain ⟨rfl, rfl, rfl⟩ := hcs
    have hnm : n ≤ m := by rw [hmm]; split <;> omega
    obtain ⟨V, hV⟩ := Deep.choose_lt (n := n) (α := Int × Int × Int) (p := fun i v => ((Lit.int kd v.1).wf = true ∧ (Lit.int kd v.2.1).wf = true ∧ (Lit.int kd v.2.2).wf = true) ∧
        w.cell? (x.add (i * 3 + 0)) = some (.int kd v.1) ∧ w.cell? (x.add (i * 3 + 1)) = some (.int kd v.2.1) ∧ w.cell? (x.add (i * 3 + 2)) = some (.int kd v.2.2)) (fun i hi' => by
      obtain ⟨cs', h1, h2⟩ := hel i (by omega)
      rw [hce] at h1
      obtain ⟨_, hlen, hcell⟩ := World.cells?_some h1
      obtain ⟨y0, y1, y2, q, _, _, e0, e1, e2⟩ := Deep.trod_struct3 he h2
      rw [h0.1, ho.1, hci] at e0
      rw [h0.2.1, ho.2.1, hci] at e1
      rw [h0.2.2, ho.2.2, hci] at e2
      match cs', hlen with
      | [v0, v1, v2], _ =>
        obtain ⟨n0, c0, _, w0⟩ := DataW.trod_int hi e0
        obtain ⟨n1, c1, _, w1⟩ := DataW.trod_int hi e1
        obtain ⟨n2, c2, _, w2⟩ := DataW.trod_int hi e2
        simp at c0 c1 c2
        subst c0; subst c1; subst c2
        have g0 := hcell 0 (by omega)
        have g1 := hcell 1 (by omega)
        have g2 := hcell 2 (by omega)
        rw [Deep.add_add] at g0 g1 g2
        exact ⟨(n0, n1, n2), ⟨w0, w1, w2⟩, by simpa using g0, by simpa using g1, by simpa using g2⟩)
    refine ⟨(List.range n).map V, by simp, by omega, ?_, ?_⟩
    · intro y hy
      simp only [List.mem_map, List.mem_range] at hy
      obtain ⟨i, hi', rfl⟩ := hy
      exact (hV i hi').1
    · intro j u hu
      refine ⟨x, rfl, ?_⟩
      have hj : j < ((List.range n).map V).length * 3 := by
        have := (List.getElem?_eq_some_iff.1 hu).1
        have e : (recs (fun x : Int × Int × Int => [Value.int kd x.1, .int kd x.2.1, .int kd x.2.2]) ((List.range n).map V)).length = ((List.range n).map V).length * 3 := recs_len (wd := 3) (fun _ => rfl) _
        rwa [e] at this
      have hi' : j / 3 < n := by simp at hj; omega
      have g := get_recs (cells := fun x : Int × Int × Int => [Value.int kd x.1, .int kd x.2.1, .int kd x.2.2]) (wd := 3) (fun _ => rfl) default (l := (List.range n).map V) (i := j / 3) (j := j % 3) (by simpa using hi') (by omega)
      rw [show j / 3 * 3 + j % 3 = j by omega, hu] at g
      have gd : ((List.range n).map V).getD (j / 3) default = V (j / 3) := by simp [List.getD, hi']
      rw [gd] at g
      obtain ⟨_, q0, q1, q2⟩ := hV (j / 3) hi'
      rcases (show j % 3 = 0 ∨ j % 3 = 1 ∨ j % 3 = 2 by omega) with e | e | e
      · rw [e] at g; simp at g; subst g; have ej : j = j / 3 * 3 + 0 := by omega
        exact (congrArg (fun i => w.cell? (x.add i)) ej).trans q0
      · rw [e] at g; simp at g; subst g; have ej : j = j / 3 * 3 + 1 := by omega
        exact (congrArg (fun i => w.cell? (x.add i)) ej).trans q1
      · rw [e] at g; simp at g; subst g; have ej : j = j / 3 * 3 + 2 := by omega
        exact (congrArg (fun i => w.cell? (x.add i)) ej).trans q2

end Go.Xg
