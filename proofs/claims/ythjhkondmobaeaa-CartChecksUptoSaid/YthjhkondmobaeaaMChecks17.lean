import Derived.Test.YthjhkondmobaeaaMChecks16
import Derived.Test.YthjhkondmobaeaaRows
import Derived.ProofKit
/- cart's laws: numbers, bytes and boxes in an argument. -/
namespace Go.Proofs.Ythjhkondmobaeaa
open Go.ChangeShapes Go.WideShapes Go.ChangeAt Go.RowKit Go.Sl Go.Xg
set_option maxRecDepth 100000
set_option linter.unusedVariables false
set_option linter.unusedSimpArgs false
set_option maxHeartbeats 4000000

theorem ownK : ownKnob Try.prog.godebug = none := by kernel_rfl
theorem laidOutK : laidOutB Try.prog = true := by kernel_rfl
theorem ints_arg {H : Type} {enc : TypeId × Value → H} {W : World} {a : Option Addr} {n c : Nat} {d : DataW H} {ps : List MemPlace}
    (h : DataW.Trod enc Try.prog W 0 (fun _ => true) true 24 (.slice a n c) d ps) :
    ∃ l : List Int, l.length = n ∧ n ≤ maxLen ∧ Reads (old W) 1 (.slice a n c) n (l.map (Value.int .i64)) ∧ ∀ i, i < n → iok (l.getD i 0) := by
  obtain ⟨l, hl, hm, hw, hc⟩ := open_ints_rd Try.underlying24 Try.underlying3 (by kernel_rfl) h
  refine ⟨l, hl, hm, reads_old (by simp [hl]) hc, fun i hi => ?_⟩
  have : l.getD i 0 ∈ l := by simp [List.getD, show i < l.length by omega]
  exact bounds_i64 (hw _ this)
section
variable {H : Type} {enc : TypeId × Value → H} {P : Program} {w : World} {base : Nat} {spare : Nat → Bool} {held : Bool}
theorem trod_struct8 {t : TypeId} {f0 f1 f2 f3 f4 f5 f6 f7 : Field} {fuel : Nat} {cs : List Value} {x : DataW H × List MemPlace} (ht : P.underlying t = some (.struct #[f0, f1, f2, f3, f4, f5, f6, f7])) (h : DataW.trod enc P w base spare held fuel t cs = some x) :
    ∃ y0 y1 y2 y3 y4 y5 y6 y7 n, DataW.trod enc P w base spare held n f0.type ((cs.drop f0.offset).take (P.cellsOf f0.type)) = some y0 ∧ DataW.trod enc P w base spare held n f1.type ((cs.drop f1.offset).take (P.cellsOf f1.type)) = some y1 ∧ DataW.trod enc P w base spare held n f2.type ((cs.drop f2.offset).take (P.cellsOf f2.type)) = some y2 ∧ DataW.trod enc P w base spare held n f3.type ((cs.drop f3.offset).take (P.cellsOf f3.type)) = some y3 ∧ DataW.trod enc P w base spare held n f4.type ((cs.drop f4.offset).take (P.cellsOf f4.type)) = some y4 ∧ DataW.trod enc P w base spare held n f5.type ((cs.drop f5.offset).take (P.cellsOf f5.type)) = some y5 ∧ DataW.trod enc P w base spare held n f6.type ((cs.drop f6.offset).take (P.cellsOf f6.type)) = some y6 ∧ DataW.trod enc P w base spare held n f7.type ((cs.drop f7.offset).take (P.cellsOf f7.type)) = some y7 := by
  obtain ⟨xs, n, _, rfl, hl, hlen, hf⟩ := DataW.trod_struct ht h
  match xs, hlen with
  | [y0, y1, y2, y3, y4, y5, y6, y7], _ => exact ⟨y0, y1, y2, y3, y4, y5, y6, y7, n, by simpa using hf 0 f0 rfl, by simpa using hf 1 f1 rfl, by simpa using hf 2 f2 rfl, by simpa using hf 3 f3 rfl, by simpa using hf 4 f4 rfl, by simpa using hf 5 f5 rfl, by simpa using hf 6 f6 rfl, by simpa using hf 7 f7 rfl⟩
end
variable {H : Type} {enc : TypeId × Value → H} {W : World}
theorem ints_cells {fuel : Nat} {cs : List Value} {y : DataW H × List MemPlace} (h : DataW.trod enc Try.prog W 0 (fun _ => true) true fuel 24 cs = some y) :
    ∃ a n c, ∃ l : List Int, cs = [.slice a n c] ∧ l.length = n ∧ n ≤ maxLen ∧ Reads (old W) 1 (.slice a n c) n (l.map (Value.int .i64)) ∧ ∀ i, i < n → iok (l.getD i 0) := by
  obtain ⟨a, n, c, rfl⟩ : ∃ a n c, cs = [.slice a n c] := by
    rcases ChangeShapes.open_ints Try.underlying24 Try.underlying3 (by kernel_rfl) h with ⟨e, _⟩ | ⟨a, n, c, _, e, _⟩
    · exact ⟨none, 0, 0, e⟩
    · exact ⟨some a, n, c, e⟩
  obtain ⟨l, h1, h2, h3, h4⟩ := ints_arg (H := H) (enc := enc) (W := W) (a := a) (n := n) (c := c) (d := y.1) (ps := y.2) ⟨fuel, h⟩
  exact ⟨a, n, c, l, rfl, h1, h2, h3, h4⟩
/-- A box's cells. -/
theorem box_cells {fuel : Nat} {cs : List Value} {y : DataW H × List MemPlace} (h : DataW.trod enc Try.prog W 0 (fun _ => true) true fuel 31 cs = some y) (hlen : cs.length = 8) :
    ∃ b : BoxA, b.Ok (old W) ∧ cs = bxC b := by
  obtain ⟨y0, y1, y2, y3, y4, y5, y6, y7, q, e0, e1, e2, e3, e4, e5, e6, e7⟩ := trod_struct8 Try.underlying31 h
  match cs, hlen with
  | [v0, v1, v2, v3, v4, v5, v6, v7], _ =>
    obtain ⟨n0, c0, _, w0⟩ := DataW.trod_int Try.underlying3 e0
    obtain rfl : v0 = Value.int .i64 n0 := List.head_eq_of_cons_eq (show [v0] = [Value.int .i64 n0] from c0)
    obtain ⟨n1, c1, _, w1⟩ := DataW.trod_int Try.underlying3 e1
    obtain rfl : v1 = Value.int .i64 n1 := List.head_eq_of_cons_eq (show [v1] = [Value.int .i64 n1] from c1)
    obtain ⟨n2, c2, _, w2⟩ := DataW.trod_int Try.underlying3 e2
    obtain rfl : v2 = Value.int .i64 n2 := List.head_eq_of_cons_eq (show [v2] = [Value.int .i64 n2] from c2)
    obtain ⟨n3, c3, _, w3⟩ := DataW.trod_int Try.underlying3 e3
    obtain rfl : v3 = Value.int .i64 n3 := List.head_eq_of_cons_eq (show [v3] = [Value.int .i64 n3] from c3)
    obtain ⟨n4, c4, _, w4⟩ := DataW.trod_int Try.underlying3 e4
    obtain rfl : v4 = Value.int .i64 n4 := List.head_eq_of_cons_eq (show [v4] = [Value.int .i64 n4] from c4)
    obtain ⟨pa, np, pc, P, k5, p1, p2, p3, p4⟩ := ints_cells e5
    obtain rfl : v5 = Value.slice pa np pc := List.head_eq_of_cons_eq (show [v5] = [Value.slice pa np pc] from k5)
    obtain ⟨qa, nq, qc, Q, k6, q1, q2, q3, q4⟩ := ints_cells e6
    obtain rfl : v6 = Value.slice qa nq qc := List.head_eq_of_cons_eq (show [v6] = [Value.slice qa nq qc] from k6)
    obtain ⟨n7, c7, _⟩ := DataW.trod_bool Try.underlying4 e7
    obtain rfl : v7 = Value.bool n7 := List.head_eq_of_cons_eq (show [v7] = [Value.bool n7] from c7)
    exact ⟨⟨n0, n1, n2, n3, n4, pa, np, pc, P, qa, nq, qc, Q, n7⟩, ⟨bounds_i64 w0, bounds_i64 w1, bounds_i64 w2, bounds_i64 w3, bounds_i64 w4, p1, q1, p2, q2, p4, q4, p3, q3⟩, rfl⟩
theorem boxes_arg {a : Option Addr} {n c : Nat} {d : DataW H} {ps : List MemPlace}
    (h : DataW.Trod enc Try.prog W 0 (fun _ => true) true 27 (.slice a n c) d ps) :
    ∃ l : List BoxA, l.length = n ∧ n ≤ maxLen ∧ Reads (old W) 8 (.slice a n c) n (recs bxC l) ∧ ∀ i, i < n → (l.getD i default).Ok (old W) := by
  obtain ⟨fuel, hf⟩ := h
  rcases Deep.open_slice Try.underlying27 hf with ⟨hcs, _⟩ | ⟨x, l, c', m, k, D, Pl, hcs, _, hl, hm, hmm, hxd, hel⟩
  · cases List.head_eq_of_cons_eq (show [Value.slice a n c] = [Value.slice none 0 0] from hcs)
    exact ⟨[], rfl, Nat.zero_le _, reads_old rfl (by simp [recs]), fun i hi => absurd hi (Nat.not_lt_zero _)⟩
  · cases List.head_eq_of_cons_eq (show [Value.slice a n c] = [Value.slice (some x) l c'] from hcs)
    have hnm : n ≤ m := by rw [hmm]; split <;> omega
    obtain ⟨V, hV⟩ := Deep.choose_lt (n := n) (α := BoxA) (p := fun i v => v.Ok (old W) ∧ ∀ j, j < 8 → W.cell? (x.add (i * 8 + j)) = (bxC v)[j]?) (fun i hi' => by
      obtain ⟨cs', h1, h2⟩ := hel i (by omega)
      rw [show Try.prog.cellsOf 31 = 8 from by kernel_rfl] at h1
      obtain ⟨_, hlen, hcell⟩ := World.cells?_some h1
      obtain ⟨b, hb, rfl⟩ := box_cells h2 hlen
      refine ⟨b, hb, fun j hj => ?_⟩
      have g0 := hcell j (by omega)
      simp only [Deep.add_add] at g0
      rw [g0])
    refine ⟨(List.range n).map V, by simp, by omega, reads_old (by rw [recs_len (wd := 8) (fun _ => rfl)]; simp) fun j u hu => ⟨x, rfl, ?_⟩, fun i hi => ?_⟩
    · have hj : j < ((List.range n).map V).length * 8 := by
        have := (List.getElem?_eq_some_iff.1 hu).1
        rwa [recs_len (wd := 8) (fun _ => rfl)] at this
      have hi' : j / 8 < n := by simp at hj; omega
      have g := get_recs (cells := bxC) (wd := 8) (fun _ => rfl) default (l := (List.range n).map V) (i := j / 8) (j := j % 8) (by simp; omega) (by omega)
      rw [show j / 8 * 8 + j % 8 = j by omega, hu] at g
      have eV : ((List.range n).map V).getD (j / 8) default = V (j / 8) := by simp [List.getD, hi']
      rw [eV] at g
      rw [g, ← (hV (j / 8) hi').2 (j % 8) (by omega), show j / 8 * 8 + j % 8 = j by omega]
    · have eV : ((List.range n).map V).getD i default = V i := by simp [List.getD, hi]
      rw [eV]
      exact (hV i hi).1
end Go.Proofs.Ythjhkondmobaeaa
