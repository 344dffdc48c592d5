/- The sched laws: numbers, and acts, in an argument. -/
import Derived.Test.YtijjficnhpokdaaRows
import Derived.Test.YtijjficnhpokdaaKS
import Derived.Test.YtijjficnhpokdaaKP10
import Derived.Test.YtijjficnhpokdaaG13
import Derived.ProofKit
namespace Go.Proofs.Ytijjficnhpokdaa
open Go.ChangeShapes Go.WideShapes Go.ChangeAt Go.RowKit Go.Sl Go.Xg
set_option maxRecDepth 100000

theorem ownK : ownKnob Try.prog.godebug = none := by kernel_rfl
theorem laidOutK : laidOutB Try.prog = true := by kernel_rfl

theorem ints_arg {H : Type} {enc : TypeId × Value → H} {W : World} {a : Option Addr} {n c : Nat} {d : DataW H} {ps : List MemPlace}
    (h : DataW.Trod enc Try.prog W 0 (fun _ => true) true 24 (.slice a n c) d ps) :
    ∃ l : List Int, l.length = n ∧ n ≤ maxLen ∧ Reads (old W) 1 (.slice a n c) n (l.map (Value.int .i64)) ∧ ∀ i, i < n → i64ok (l.getD i 0) := by
  obtain ⟨l, hl, hm, hw, hc⟩ := open_ints_rd Try.underlying24 Try.underlying3 (by kernel_rfl) h
  refine ⟨l, hl, hm, reads_old (by simp [hl]) hc, fun i hi => ?_⟩
  have : l.getD i 0 ∈ l := by simp [List.getD, show i < l.length by omega]
  exact bounds_i64 (hw _ this)

abbrev acC (x : Int × Int) : List Value := [.int .i64 x.1, .int .i64 x.2]
theorem acts_arg {H : Type} {enc : TypeId × Value → H} {W : World} {a : Option Addr} {n c : Nat} {d : DataW H} {ps : List MemPlace}
    (h : DataW.Trod enc Try.prog W 0 (fun _ => true) true 27 (.slice a n c) d ps) :
    ∃ l : List (Int × Int), l.length = n ∧ n ≤ maxLen ∧ Reads (old W) 2 (.slice a n c) n (recs acC l) ∧ ∀ i, i < n → i64ok (l.getD i default).1 ∧ i64ok (l.getD i default).2 := by
  obtain ⟨fuel, hf⟩ := h
  rcases Deep.open_slice Try.underlying27 hf with ⟨hcs, _⟩ | ⟨x, l, c', m, k, D, Pl, hcs, _, hl, hm, hmm, _, hel⟩
  · cases List.head_eq_of_cons_eq (show [Value.slice a n c] = [Value.slice none 0 0] from hcs)
    exact ⟨[], rfl, Nat.zero_le _, reads_old rfl (by simp [recs]), fun i hi => absurd hi (Nat.not_lt_zero _)⟩
  · cases List.head_eq_of_cons_eq (show [Value.slice a n c] = [Value.slice (some x) l c'] from hcs)
    have hnm : n ≤ m := by rw [hmm]; split <;> omega
    obtain ⟨V, hV⟩ := Deep.choose_lt (n := n) (α := Int × Int) (p := fun i v => (i64ok v.1 ∧ i64ok v.2) ∧ W.cell? (x.add (i * 2 + 0)) = some (.int .i64 v.1) ∧ W.cell? (x.add (i * 2 + 1)) = some (.int .i64 v.2)) (fun i hi' => by
      obtain ⟨cs', h1, h2⟩ := hel i (by omega)
      rw [show Try.prog.cellsOf 33 = 2 from by kernel_rfl] at h1
      obtain ⟨_, hlen, hcell⟩ := World.cells?_some h1
      obtain ⟨y0, y1, q, _, _, e0, e1⟩ := trod_struct2 Try.underlying33 h2
      match cs', hlen with
      | [v0, v1], _ =>
        obtain ⟨n0, c0, _, w0⟩ := DataW.trod_int Try.underlying3 e0
        obtain rfl : v0 = Value.int .i64 n0 := List.head_eq_of_cons_eq (show [v0] = [Value.int .i64 n0] from c0)
        obtain ⟨n1, c1, _, w1⟩ := DataW.trod_int Try.underlying3 e1
        obtain rfl : v1 = Value.int .i64 n1 := List.head_eq_of_cons_eq (show [v1] = [Value.int .i64 n1] from c1)
        have g0 := hcell 0 (by omega)
        have g1 := hcell 1 (by omega)
        rw [Deep.add_add] at g0 g1
        exact ⟨⟨n0, n1⟩, ⟨bounds_i64 w0, bounds_i64 w1⟩, by simpa using g0, by simpa using g1⟩)
    refine ⟨(List.range n).map V, by simp, by omega, reads_old (by rw [recs_len (wd := 2) (fun _ => rfl)]; simp) fun j u hu => ⟨x, rfl, ?_⟩, fun i hi => ?_⟩
    · have hj : j < ((List.range n).map V).length * 2 := by
        have := (List.getElem?_eq_some_iff.1 hu).1
        rwa [recs_len (wd := 2) (fun _ => rfl)] at this
      have hi' : j / 2 < n := by simp at hj; omega
      have g := get_recs (cells := acC) (wd := 2) (fun _ => rfl) default (l := (List.range n).map V) (i := j / 2) (j := j % 2) (by simp; omega) (by omega)
      rw [show j / 2 * 2 + j % 2 = j by omega, hu] at g
      have eV : ((List.range n).map V).getD (j / 2) default = V (j / 2) := by simp [List.getD, hi']
      rw [eV] at g
      obtain ⟨_, k0, k1⟩ := hV (j / 2) hi'
      rcases (show j % 2 = 0 ∨ j % 2 = 1 by omega) with e | e <;> rw [e] at g <;> simp at g <;> rw [g]
      · rw [show j = j / 2 * 2 + 0 by omega]; simpa [show (j / 2 * 2 + 0) / 2 = j / 2 by omega] using k0
      · rw [show j = j / 2 * 2 + 1 by omega]; simpa [show (j / 2 * 2 + 1) / 2 = j / 2 by omega] using k1
    · have eV : ((List.range n).map V).getD i default = V i := by simp [List.getD, hi]
      rw [eV]
      exact (hV i hi).1

end Go.Proofs.Ytijjficnhpokdaa
