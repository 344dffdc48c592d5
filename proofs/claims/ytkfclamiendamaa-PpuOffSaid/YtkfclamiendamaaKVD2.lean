/- The picture's laws: a scene in an argument. -/
import Derived.Test.YtkfclamiendamaaKVD1
import Derived.Test.YtkfclamiendamaaKS
import Derived.Test.YtkfclamiendamaaKV28
namespace Go.Proofs.Ytkfclamiendamaa
open Go.ChangeShapes Go.WideShapes Go.ChangeAt Go.RowKit Go.Sl Go.Xg
set_option maxRecDepth 100000

variable {H : Type} {enc : TypeId × Value → H} {W : World}
theorem bytes_cells {fuel : Nat} {cs : List Value} {y : DataW H × List MemPlace} (h : DataW.trod enc Try.prog W 0 (fun _ => true) true fuel 27 cs = some y) :
    ∃ a n c, ∃ l : List Int, cs = [.slice a n c] ∧ l.length = n ∧ n ≤ maxLen ∧ Reads (old W) 1 (.slice a n c) n (l.map (Value.int .u8)) ∧ ∀ i, i < n → 0 ≤ l.getD i 0 ∧ l.getD i 0 ≤ 255 := by
  obtain ⟨a, n, c, rfl⟩ : ∃ a n c, cs = [.slice a n c] := by
    rcases ChangeShapes.open_ints Try.underlying27 Try.underlying5 (by kernel_rfl) h with ⟨e, _⟩ | ⟨a, n, c, _, e, _⟩
    · exact ⟨none, 0, 0, e⟩
    · exact ⟨some a, n, c, e⟩
  obtain ⟨l, h1, h2, h3, h4⟩ := bytes_arg (H := H) (enc := enc) (W := W) (a := a) (n := n) (c := c) (d := y.1) (ps := y.2) ⟨fuel, h⟩
  exact ⟨a, n, c, l, rfl, h1, h2, h3, h4⟩
theorem ints_cells {fuel : Nat} {cs : List Value} {y : DataW H × List MemPlace} (h : DataW.trod enc Try.prog W 0 (fun _ => true) true fuel 24 cs = some y) :
    ∃ a n c, ∃ l : List Int, cs = [.slice a n c] ∧ l.length = n ∧ n ≤ maxLen ∧ Reads (old W) 1 (.slice a n c) n (l.map (Value.int .i64)) ∧ ∀ i, i < n → i64ok (l.getD i 0) := by
  obtain ⟨a, n, c, rfl⟩ : ∃ a n c, cs = [.slice a n c] := by
    rcases ChangeShapes.open_ints Try.underlying24 Try.underlying3 (by kernel_rfl) h with ⟨e, _⟩ | ⟨a, n, c, _, e, _⟩
    · exact ⟨none, 0, 0, e⟩
    · exact ⟨some a, n, c, e⟩
  obtain ⟨l, h1, h2, h3, h4⟩ := ints_arg (H := H) (enc := enc) (W := W) (a := a) (n := n) (c := c) (d := y.1) (ps := y.2) ⟨fuel, h⟩
  exact ⟨a, n, c, l, rfl, h1, h2, h3, h4⟩

theorem pieces_cells {fuel : Nat} {cs : List Value} {y : DataW H × List MemPlace} (h : DataW.trod enc Try.prog W 0 (fun _ => true) true fuel 34 cs = some y) :
    ∃ a n c, ∃ l : List Pc, cs = [.slice a n c] ∧ l.length = n ∧ n ≤ maxLen ∧ Reads (old W) 2 (.slice a n c) n (recs pcC l) ∧ ∀ i, i < n → (l.getD i default).Ok (old W) := by
  rcases Deep.open_slice Try.underlying34 h with ⟨hcs, _⟩ | ⟨x, l, c', m, k, D, Pl, hcs, _, hl, hm, hmm, _, hel⟩
  · exact ⟨none, 0, 0, [], hcs, rfl, Nat.zero_le _, reads_old rfl (by simp [recs]), fun i hi => absurd hi (Nat.not_lt_zero _)⟩
  · have hnm : l ≤ m := by rw [hmm]; split <;> omega
    obtain ⟨V, hV⟩ := Deep.choose_lt (n := l) (α := Pc) (p := fun i v => v.Ok (old W) ∧ W.cell? (x.add (i * 2 + 0)) = some (.int .i64 v.at0) ∧ W.cell? (x.add (i * 2 + 1)) = some (.slice v.a v.n v.c)) (fun i hi' => by
      obtain ⟨cs', h1, h2⟩ := hel i (by omega)
      rw [show Try.prog.cellsOf 42 = 2 from by kernel_rfl] at h1
      obtain ⟨_, hlen, hcell⟩ := World.cells?_some h1
      obtain ⟨y0, y1, q, _, _, e0, e1⟩ := trod_struct2 Try.underlying42 h2
      match cs', hlen with
      | [v0, v1], _ =>
        obtain ⟨n0, c0, _, w0⟩ := DataW.trod_int Try.underlying3 e0
        obtain rfl : v0 = Value.int .i64 n0 := List.head_eq_of_cons_eq (show [v0] = [Value.int .i64 n0] from c0)
        obtain ⟨a, n, c, bs, cb, b1, b2, b3, b4⟩ := bytes_cells e1
        obtain rfl : v1 = Value.slice a n c := List.head_eq_of_cons_eq (show [v1] = [Value.slice a n c] from cb)
        have g0 := hcell 0 (by omega)
        have g1 := hcell 1 (by omega)
        rw [Deep.add_add] at g0 g1
        exact ⟨⟨n0, a, n, c, bs⟩, ⟨b1, b2, bounds_i64 w0, b3, b4⟩, by simpa using g0, by simpa using g1⟩)
    refine ⟨some x, l, c', (List.range l).map V, hcs, by simp, by omega, reads_old (by rw [recs_len (wd := 2) (fun _ => rfl)]; simp) fun j u hu => ⟨x, rfl, ?_⟩, fun i hi => ?_⟩
    · have hj : j < ((List.range l).map V).length * 2 := by
        have := (List.getElem?_eq_some_iff.1 hu).1
        rwa [recs_len (wd := 2) (fun _ => rfl)] at this
      have hi' : j / 2 < l := by simp at hj; omega
      have g := get_recs (cells := pcC) (wd := 2) (fun _ => rfl) default (l := (List.range l).map V) (i := j / 2) (j := j % 2) (by simp; omega) (by omega)
      rw [show j / 2 * 2 + j % 2 = j by omega, hu] at g
      have eV : ((List.range l).map V).getD (j / 2) default = V (j / 2) := by simp [List.getD, hi']
      rw [eV] at g
      obtain ⟨_, k0, k1⟩ := hV (j / 2) hi'
      rcases (show j % 2 = 0 ∨ j % 2 = 1 by omega) with e | e <;> rw [e] at g <;> simp at g <;> rw [g]
      · rw [show j = j / 2 * 2 + 0 by omega]; simpa [show (j / 2 * 2 + 0) / 2 = j / 2 by omega] using k0
      · rw [show j = j / 2 * 2 + 1 by omega]; simpa [show (j / 2 * 2 + 1) / 2 = j / 2 by omega] using k1
    · have eV : ((List.range l).map V).getD i default = V i := by simp [List.getD, hi]
      rw [eV]
      exact (hV i hi).1

/-- A scene. -/
theorem scene_arg {base : Nat} {v : Value} {d : DataW H} {ps : List MemPlace} (hv : Value.okWide Try.prog W .any base 36 v) (h : DataW.Trod enc Try.prog W 0 (fun _ => true) true 36 v d ps) :
    ∃ s : Sn, v = snV s ∧ s.Ok (old W) := by
  obtain ⟨cs, rfl, hcs⟩ := okWide_struct Try.underlying36 hv
  obtain ⟨fuel, hf⟩ := h
  obtain ⟨y0, y1, y2, q, _, hlen, e0, e1, e2⟩ := Deep.trod_struct3 Try.underlying36 hf
  have hsz : cs.toList.length = 3 := by rw [Array.length_toList, hcs]; kernel_rfl
  have hcl : (Value.agg cs).cells.toList = cs.toList := rfl
  rw [hcl] at e0 e1 e2
  obtain ⟨v0, v1, v2, hl⟩ : ∃ v0 v1 v2, cs.toList = [v0, v1, v2] := by
    match cs.toList, hsz with
    | [v0, v1, v2], _ => exact ⟨v0, v1, v2, rfl⟩
  rw [hl] at e0 e1 e2
  obtain ⟨ra, rn, rc, rs, k0, r1, r2, r3, r4⟩ := ints_cells e0
  obtain ⟨oa, on, oc, os, k1, o1, o2, o3, o4⟩ := bytes_cells e1
  obtain ⟨pa, pn, pc, pl, k2, p1, p2, p3, p4⟩ := pieces_cells e2
  obtain rfl : v0 = Value.slice ra rn rc := List.head_eq_of_cons_eq (show [v0] = [Value.slice ra rn rc] from k0)
  obtain rfl : v1 = Value.slice oa on oc := List.head_eq_of_cons_eq (show [v1] = [Value.slice oa on oc] from k1)
  obtain rfl : v2 = Value.slice pa pn pc := List.head_eq_of_cons_eq (show [v2] = [Value.slice pa pn pc] from k2)
  refine ⟨⟨ra, rn, rc, rs, oa, on, oc, os, pa, pn, pc, pl⟩, ?_, ⟨r1, r2, r3, r4, o1, o2, o3, o4, p1, p2, p3, p4⟩⟩
  obtain ⟨l⟩ := cs
  have hl : l = _ := hl
  rw [hl]

end Go.Proofs.Ytkfclamiendamaa
