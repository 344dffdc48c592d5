/- The ports' laws: numbers, bytes and strings in an argument. -/
import Derived.Test.YtncdmccdclhokaaDoorKD1
import Derived.Test.YtncdmccdclhokaaDoorG12
namespace Go.Proofs.YtncdmccdclhokaaDoor
open Go.ChangeShapes Go.WideShapes Go.ChangeAt Go.RowKit Go.Sl Go.Xg
set_option maxRecDepth 100000

theorem ints_arg {H : Type} {enc : TypeId × Value → H} {W : World} {te : TypeId} (hb : W.heap[0]? = some (.cells #[.int .u64 9, .int .u64 3, .int .u64 5, .int .u64 7] te)) {a : Option Addr} {n c : Nat} {d : DataW H} {ps : List MemPlace}
    (h : DataW.Trod enc Tryd.prog W 0 (fun _ => true) true 26 (.slice a n c) d ps) :
    ∃ l : List Int, l.length = n ∧ n ≤ maxLen ∧ Reads (oldBut 0 W) 1 (.slice a n c) n (l.map (Value.int .i64)) ∧ ∀ i, i < n → i64ok (l.getD i 0) := by
  obtain ⟨l, hl, hm, hw, hc⟩ := open_ints_rd Tryd.underlying26 Tryd.underlying3 (by kernel_rfl) h
  refine ⟨l, hl, hm, reads_but (by simp [hl]) fun j u hu => ?_, fun i hi => ?_⟩
  · obtain ⟨ad, h1, h2⟩ := hc j u hu
    rw [List.getElem?_map, Option.map_eq_some_iff] at hu
    obtain ⟨q, _, rfl⟩ := hu
    exact ⟨ad, h1, drv_no hb (by decide) h2, h2⟩
  · have : l.getD i 0 ∈ l := by simp [List.getD, show i < l.length by omega]
    exact bounds_i64 (hw _ this)

theorem bytes_arg {H : Type} {enc : TypeId × Value → H} {W : World} {te : TypeId} (hb : W.heap[0]? = some (.cells #[.int .u64 9, .int .u64 3, .int .u64 5, .int .u64 7] te)) {a : Option Addr} {n c : Nat} {d : DataW H} {ps : List MemPlace}
    (h : DataW.Trod enc Tryd.prog W 0 (fun _ => true) true 35 (.slice a n c) d ps) :
    ∃ l : List Int, l.length = n ∧ n ≤ maxLen ∧ Reads (oldBut 0 W) 1 (.slice a n c) n (l.map (Value.int .u8)) ∧ isB l := by
  obtain ⟨l, hl, hm, hw, hc⟩ := open_ints_rd Tryd.underlying35 Tryd.underlying5 (by kernel_rfl) h
  refine ⟨l, hl, hm, reads_but (by simp [hl]) fun j u hu => ?_, fun x hx => wf_u8 (hw x hx)⟩
  obtain ⟨ad, h1, h2⟩ := hc j u hu
  rw [List.getElem?_map, Option.map_eq_some_iff] at hu
  obtain ⟨q, _, rfl⟩ := hu
  exact ⟨ad, h1, drv_no hb (by decide) h2, h2⟩

end Go.Proofs.YtncdmccdclhokaaDoor
