import Derived.Test.YthjhkondmobaeaaDoorMStrict19
import Derived.Test.YthjhkondmobaeaaDoorRows
import Derived.ProofKit
import Derived.LaidMore
import Derived.OpenShut
import Derived.Stop.Joined
/- cart's laws: what the laid variable gives. -/
namespace Go.Proofs.YthjhkondmobaeaaDoor
open Go.ChangeShapes Go.WideShapes Go.ChangeAt Go.RowKit Go.Sl Go.Xg
set_option maxRecDepth 100000
set_option linter.unusedVariables false
set_option linter.unusedSimpArgs false

theorem ownP : ownKnob Tryd.prog.godebug = none := by kernel_rfl
theorem gTypes : Tryd.prog.globalNamed "arcade/arcadelaw4.types" = some 0 := by kernel_rfl
theorem tTypes : (Tryd.prog.globals[0]?).map (·.type) = some 22 := by kernel_rfl
abbrev laidP {H : Type} : List (String × DataW H) := [("arcade/arcadelaw4.types", Rows.laid_arcade_arcadelaw4_types)]
theorem door_metP (os : Os) (args : Array Value) : laidMetH Tryd.prog laidP ((World.doorLaid Tryd.prog 400 os).forCall (fun _ _ => 0) ⟨#[], args, []⟩).memory :=
  laidMetH_of_parts3 (fuel := 8) (laidMet_of_run' 8 (by kernel_rfl) (by kernel_rfl)) (by kernel_rfl) (by kernel_rfl)
/-- The types, as the text lays them. -/
def tyL : List Int := [0, 1, 5, 17, 25, 9, 3, 6, 19, 27]
theorem lits_nil {H : Type} {xs : List Int} (h : ([] : List (DataW H)) = ChangeShapes.lits .i64 xs) : xs = [] := by
  cases xs with
  | nil => rfl
  | cons x l => cases h
theorem lits_inj {H : Type} : ∀ {xs ys : List Int}, (ChangeShapes.lits .i64 xs : List (DataW H)) = ChangeShapes.lits .i64 ys → xs = ys
  | [], [], _ => rfl
  | [], _ :: _, h => by cases h
  | _ :: _, [], h => by cases h
  | x :: xs, y :: ys, h => by
    simp only [ChangeShapes.lits, List.map_cons, List.cons.injEq, DataW.lit.injEq, Lit.int.injEq] at h
    rw [h.1.2, lits_inj h.2]
/-- What the condition gives: the variable's block, and the numbers behind it. -/
theorem of_laidP {W : World} (h : laidMetH Tryd.prog laidP W) : ∃ te ta tc, W.heap[0]? = some (.cells #[.slice ta 10 tc] te) ∧ ∃ a, ta = some a ∧ ∀ i, i < 10 → W.cell? (a.add i) = some (.int .i64 (tyL.getD i 0)) := by
  rw [MakeChecks.laidMetH_plain _ _ _ (by kernel_rfl)] at h
  obtain ⟨ps, ⟨g0, t0, cs0, f0, p0, q0, hg0, ht0, hv0, hd0, rfl, hps⟩, _, hh⟩ := h
  obtain rfl := Option.some.inj (gTypes.symm.trans hg0)
  obtain rfl := Option.some.inj (tTypes.symm.trans ht0)
  rcases ChangeShapes.open_ints Tryd.underlying22 Tryd.underlying3 (by kernel_rfl) hd0 with ⟨_, hx⟩ | ⟨a, n, c, zs, hcs, _, hnc, _, hz, hx, hcell, _⟩
  · cases congrArg Prod.fst hx
  have hx1 := congrArg Prod.fst hx
  simp only [Rows.laid_arcade_arcadelaw4_types, DataW.slice.injEq] at hx1
  have h1 : zs.take n = tyL := (lits_inj (xs := tyL) hx1.1).symm
  have h2 : zs.drop n = [] := lits_nil hx1.2
  have hzs : zs = tyL := by rw [← List.take_append_drop n zs, h1, h2, List.append_nil]
  have hl : zs.length = 10 := by rw [hzs]; rfl
  have hn1 : 10 ≤ n := by
    have := congrArg List.length h1
    rw [List.length_take, hl] at this
    have e : tyL.length = 10 := rfl
    omega
  have hn : n = 10 := by
    split at hz <;> omega
  subst hn
  have e : cs0 = #[.slice (some a) 10 c] := by
    obtain ⟨l⟩ := cs0
    have : l = [.slice (some a) 10 c] := hcs
    rw [this]
  have hb : ∃ c t, W.heap[0]? = some (.cells c t (0, 0)) := (hh 0 0 (by rw [hps, e]; simp [MemPlace.row])).1
  obtain ⟨c2, t, hb⟩ := hb
  have hv : W.var? Tryd.prog "arcade/arcadelaw4.types" = some c2 := by simp [World.var?, gTypes, hb]
  rw [hv] at hv0
  obtain rfl := Option.some.inj hv0
  refine ⟨t, some a, c, by rw [hb, e], a, rfl, fun i hi => ?_⟩
  rw [hcell i (by omega), hzs]
/-- The numbers, read. -/
theorem reads_types {W : World} {te : TypeId} {ta : Option Addr} {tc : Nat} (hb : W.heap[0]? = some (.cells #[.slice ta 10 tc] te)) (h : ∃ a, ta = some a ∧ ∀ i, i < 10 → W.cell? (a.add i) = some (.int .i64 (tyL.getD i 0))) : Reads (oldBut 0 W) 1 (.slice ta 10 tc) 10 (tyL.map (Value.int .i64)) := by
  obtain ⟨a, rfl, h⟩ := h
  refine reads_but rfl fun j u hu => ⟨a, rfl, ?_, ?_⟩
  · have hj : j < 10 := by
      have := (List.getElem?_eq_some_iff.1 hu).1
      simpa [tyL] using this
    have hc := h j hj
    intro e0
    generalize hx : a.add j = x at hc
    have hbx : x.block = 0 := by rw [← hx, bl_add]; exact e0
    obtain ⟨b, off, pth⟩ := x
    simp only at hbx
    subst hbx
    unfold World.cell? at hc
    simp only [hb] at hc
    match off, hc with
    | 0, hc => simp at hc
    | n + 1, hc => simp at hc
  · have hj : j < 10 := by
      have := (List.getElem?_eq_some_iff.1 hu).1
      simpa [tyL] using this
    rw [h j hj, ← hu, List.getElem?_map]
    rw [List.getD_eq_getElem?_getD, List.getElem?_eq_getElem (show j < tyL.length from hj)]
    rfl
end Go.Proofs.YthjhkondmobaeaaDoor

/- cart, plain: a header with one byte turned; bytes elsewhere say nothing. -/
namespace Go.Proofs.YthjhkondmobaeaaDoor
open Go.Sl Go.Xg
set_option linter.unusedVariables false
set_option linter.unusedSimpArgs false

theorem bxor_ok {b v : Int} (hb : 0 ≤ b ∧ b ≤ 255) (hv : 1 ≤ v ∧ v ≤ 255) : Xg.bxor .u8 b v ≠ b ∧ 0 ≤ Xg.bxor .u8 b v ∧ Xg.bxor .u8 b v ≤ 255 ∧ Xg.bxor .u8 (Xg.bxor .u8 b v) v = b := by
  obtain ⟨x, rfl⟩ : ∃ x : Nat, b = (x : Int) := ⟨b.toNat, by omega⟩
  obtain ⟨y, rfl⟩ : ∃ y : Nat, v = (y : Int) := ⟨v.toNat, by omega⟩
  have e1 := bxor8 (x := x) (y := y) (by omega) (by omega)
  have hlt : x ^^^ y < 256 := Nat.xor_lt_two_pow (n := 8) (by omega) (by omega)
  have e2 := bxor8 (x := x ^^^ y) (y := y) hlt (by omega)
  rw [e1]
  refine ⟨fun h => ?_, by omega, by omega, ?_⟩
  · have h1 : x ^^^ y = x := by omega
    have h2 : y = 0 := by
      have := congrArg (fun z => x ^^^ z) h1
      simpa [← Nat.xor_assoc] using this
    omega
  · rw [e2, Nat.xor_assoc, Nat.xor_self, Nat.xor_zero]
theorem hsum_at (R : List Int) (k : Nat) (v : Int) (hk : 308 ≤ k ∧ k < 333) (hl : 336 ≤ R.length) : ∀ m, m ≤ 25 → hsum (R.set k v) m = if k < 308 + m then hsum R m - R.getD k 0 + v else hsum R m
  | 0, _ => by rw [if_neg (by omega)]; rfl
  | m + 1, hm => by
    have ih := hsum_at R k v hk hl m (by omega)
    show hsum (R.set k v) m + (R.set k v).getD (308 + m) 0 = _
    rw [ih, getD_set _ _ _ _ (by omega)]
    have e : hsum R (m + 1) = hsum R m + R.getD (308 + m) 0 := rfl
    by_cases h1 : k < 308 + m
    · rw [if_pos h1, if_neg (by omega), if_pos (by omega), e]; omega
    · rw [if_neg h1]
      by_cases h2 : 308 + m = k
      · rw [if_pos h2, if_pos (by omega), e, h2]; omega
      · rw [if_neg h2, if_neg (by omega), e]
/-- One byte of the header turned. -/
theorem chk_turn {t rc rr sd : Int} {n : Nat} {R : List Int} (h : BoxR t rc rr sd n R) (hn : 32768 ≤ n ∧ n ≤ 2097152) (q : Nat) (hq : q < 74) (v : Int) (hv : 1 ≤ v ∧ v ≤ 255) : chk (R.set (260 + q) (Xg.bxor .u8 (R.getD (260 + q) 0) v)) = (hd0, if q < 48 then 42 else 43) := by
  have hl := h.l
  have hb := isB_get h.b (i := 260 + q) (by omega)
  obtain ⟨x1, x2, x3, x4⟩ := bxor_ok hb hv
  obtain ⟨w, hw⟩ : ∃ w, Xg.bxor .u8 (R.getD (260 + q) 0) v = w := ⟨_, rfl⟩
  rw [hw] at x1 x2 x3 ⊢
  obtain ⟨h1, -⟩ := box_bytes h (by omega)
  unfold chk
  rw [List.length_set, hl, if_neg (by omega)]
  by_cases h48 : q < 48
  · rw [if_pos h48]
    have hm : mkdB (R.set (260 + q) w) = false := mkdB_f _ q h48 (by
      rw [getD_set _ _ _ _ (by omega), if_pos rfl, ← (mkdB_t R).1 h1 q h48]
      exact x1)
    rw [if_pos hm]
  · rw [if_neg h48]
    have hm : mkdB (R.set (260 + q) w) = true := (mkdB_t _).2 fun i hi => by
      rw [getD_set _ _ _ _ (by omega), if_neg (by omega)]
      exact (mkdB_t R).1 h1 i hi
    rw [if_neg (by rw [hm]; decide)]
    have hs := h.s
    by_cases h73 : q = 73
    · subst h73
      rw [hsum_set _ _ _ (by omega) (by omega), getD_set _ _ _ _ (by omega), if_pos rfl, if_pos (by rw [hs]; exact fun e => x1 e.symm)]
    · have hh := hsum_at R (260 + q) w ⟨by omega, by omega⟩ (by omega) 25 (by omega)
      rw [if_pos (by omega)] at hh
      rw [hh, getD_set _ _ _ _ (by omega), if_neg (show ¬ 333 = 260 + q by omega), if_pos (by omega)]
/-- Bytes that are none of the header. -/
theorem box_set {t rc rr sd : Int} {n : Nat} {R : List Int} (h : BoxR t rc rr sd n R) (hn : 336 ≤ n) (k : Nat) (hk : k < 260 ∨ 336 ≤ k) (v : Int) (hv : 0 ≤ v ∧ v ≤ 255) : BoxR t rc rr sd n (R.set k v) := by
  have hl := h.l
  by_cases hkl : k < R.length
  · refine ⟨by rw [List.length_set]; exact hl, isB_set _ h.b hv, ?_, fun j h1 h2 h3 => ?_⟩
    · have e : ∀ m, m ≤ 25 → hsum (R.set k v) m = hsum R m := fun m => by
        induction m with
        | zero => exact fun _ => rfl
        | succ m ih =>
          intro hm
          show hsum (R.set k v) m + (R.set k v).getD (308 + m) 0 = hsum R m + R.getD (308 + m) 0
          rw [ih (by omega), getD_set _ _ _ _ hkl, if_neg (by omega)]
      rw [e 25 (by omega), getD_set _ _ _ _ hkl, if_neg (by omega)]
      exact h.s
    · rw [getD_set _ _ _ _ hkl, if_neg (by omega)]
      exact h.f j h1 h2 h3
  · rw [List.set_eq_of_length_le (by omega)]
    exact h
end Go.Proofs.YthjhkondmobaeaaDoor

/- cart's law: a header is strict: what it needs. -/
namespace Go.Proofs.YthjhkondmobaeaaDoor
open Go.Sl Go.Xg
set_option linter.unusedVariables false
set_option linter.unusedSimpArgs false
set_option maxHeartbeats 4000000
set_option maxRecDepth 100000

theorem set_same (R : List Int) (k : Nat) (hk : k < R.length) : R.set k (R.getD k 0) = R := by
  rw [List.getD_eq_getElem?_getD, List.getElem?_eq_getElem hk]
  exact List.set_getElem_self hk
theorem sEq_nil {xs : List Int} (h : xs.length = 2) : sEq [] xs = false := by
  cases e : sEq [] xs with
  | false => rfl
  | true =>
    unfold sEq at e
    have h1 := toList_inj (eq_of_beq e)
    have h2 := congrArg ByteArray.size h1
    rw [St_size, St_size, h] at h2
    cases h2
theorem sameHead_no (h : Hd) (htt : h.tt.length = 2) : Does Tryd.prog 11 [.agg #[.string (St []), .int .i64 0, .int .i64 0, .int .i64 0, .int .i64 0, .bool false], .agg #[.string (St h.tt), .int .i64 h.ty, .int .i64 h.mp, .int .i64 h.bk, .int .i64 h.rm, .bool h.bt]] [] (Ret (.bool false) []) := by
  have hs := sEq_nil htt
  (focus
    refine Xg.spec_of Go.Proofs.Tryd.func11 rfl Go.Proofs.Tryd.ntmps11 fun g F => ?_)
  (focus
    refine Xg.at_seq ?_
    refine Xg.at_region ?_
    refine Xg.ops_op (by kernel_rfl) (Xg.opx_box (v := (Value.agg #[Value.string (St []), iv 0, iv 0, iv 0, iv 0, Value.bool false])) [Value.string (St []), iv 0, iv 0, iv 0, iv 0, Value.bool false] (by kernel_rfl) (by kernel_rfl) fun xb1 => ?_)
    refine Xg.ops_op (by kernel_rfl) (Xg.opx_box (v := (Value.agg #[Value.string (St h.tt), iv h.ty, iv h.mp, iv h.bk, iv h.rm, Value.bool h.bt])) [Value.string (St h.tt), iv h.ty, iv h.mp, iv h.bk, iv h.rm, Value.bool h.bt] (by kernel_rfl) (by kernel_rfl) fun xb2 => ?_)
    refine Xg.ops_op (by kernel_rfl) (Xg.opx_pure ((Value.bool false)) rfl (fun _ => by kernel_rfl) ?_)
    refine Xg.ops_nil ?_
    refine Xg.at_seq ?_
    refine Xg.at_region ?_
    refine Xg.ops_op (by kernel_rfl) (Xg.opx_pure ((pv xb1 0)) rfl (fun _ => by kernel_rfl) ?_)
    refine Xg.ops_op (by kernel_rfl) (Xg.opx_load (b := xb1) (off := ((0 : Nat))) 1 (Value.string (St [])) rfl (by kernel_rfl) (by kernel_rfl) (by kernel_rfl) ?_)
    refine Xg.ops_op (by kernel_rfl) (Xg.opx_pure ((pv xb2 0)) rfl (fun _ => by kernel_rfl) ?_)
    refine Xg.ops_op (by kernel_rfl) (Xg.opx_load (b := xb2) (off := ((0 : Nat))) 0 (Value.string (St h.tt)) rfl (by kernel_rfl) (by kernel_rfl) (by kernel_rfl) ?_)
    refine Xg.ops_op (by kernel_rfl) (Xg.opx_run (.bool (Xg.sEq [] h.tt)) rfl (Xg.run_str_eq (xs := []) (ys := h.tt) (by kernel_rfl) (by kernel_rfl) (by kernel_rfl)) ?_)
    refine Xg.ops_op (by kernel_rfl) (Xg.opx_pure ((Value.bool (sEq [] h.tt))) rfl (fun _ => by kernel_rfl) ?_)
    refine Xg.ops_flag (j := 10) (c := (sEq [] h.tt)) (by kernel_rfl) (fun xh1 => ?_) (fun xh1 => ?_)
    refine Xg.ops_op (by kernel_rfl) (Xg.opx_pure ((pv xb1 1)) rfl (fun _ => by kernel_rfl) ?_)
    refine Xg.ops_op (by kernel_rfl) (Xg.opx_load (b := xb1) (off := ((1 : Nat))) 1 (iv 0) rfl (by kernel_rfl) (by kernel_rfl) (by kernel_rfl) ?_)
    refine Xg.ops_op (by kernel_rfl) (Xg.opx_pure ((pv xb2 1)) rfl (fun _ => by kernel_rfl) ?_)
    refine Xg.ops_op (by kernel_rfl) (Xg.opx_load (b := xb2) (off := ((1 : Nat))) 0 (iv h.ty) rfl (by kernel_rfl) (by kernel_rfl) (by kernel_rfl) ?_)
    refine Xg.ops_op (by kernel_rfl) (Xg.opx_pure (.bool (decide ((((0 : Int)) : Int) = h.ty))) rfl (fun _ => by kernel_rfl) ?_)
    refine Xg.ops_flag (j := 15) (c := (decide ((0 : Int) = h.ty))) (by kernel_rfl) (fun xh2 => ?_) (fun xh2 => ?_)
    replace xh2 : ((0 : Int) = h.ty) := of_decide_eq_true xh2
    rotate_left
    replace xh2 : ¬ (((0 : Int) = h.ty)) := of_decide_eq_false xh2
    rotate_right
    refine Xg.ops_op (by kernel_rfl) (Xg.opx_pure ((Value.bool true)) rfl (fun _ => by kernel_rfl) ?_)
    refine Xg.ops_op (by kernel_rfl) (Xg.opx_pure ((Value.bool true)) rfl (fun _ => by kernel_rfl) ?_)
    refine Xg.ops_op (by kernel_rfl) (Xg.opx_pure ((pv xb1 2)) rfl (fun _ => by kernel_rfl) ?_)
    refine Xg.ops_op (by kernel_rfl) (Xg.opx_load (b := xb1) (off := ((2 : Nat))) 1 (iv 0) rfl (by kernel_rfl) (by kernel_rfl) (by kernel_rfl) ?_)
    refine Xg.ops_op (by kernel_rfl) (Xg.opx_pure ((pv xb2 2)) rfl (fun _ => by kernel_rfl) ?_)
    refine Xg.ops_op (by kernel_rfl) (Xg.opx_load (b := xb2) (off := ((2 : Nat))) 0 (iv h.mp) rfl (by kernel_rfl) (by kernel_rfl) (by kernel_rfl) ?_)
    refine Xg.ops_op (by kernel_rfl) (Xg.opx_pure (.bool (decide ((((0 : Int)) : Int) = h.mp))) rfl (fun _ => by kernel_rfl) ?_)
    refine Xg.ops_flag (j := 22) (c := (decide ((0 : Int) = h.mp))) (by kernel_rfl) (fun xh3 => ?_) (fun xh3 => ?_)
    replace xh3 : ((0 : Int) = h.mp) := of_decide_eq_true xh3
    rotate_left
    replace xh3 : ¬ (((0 : Int) = h.mp)) := of_decide_eq_false xh3
    rotate_right
    refine Xg.ops_op (by kernel_rfl) (Xg.opx_pure ((Value.bool true)) rfl (fun _ => by kernel_rfl) ?_)
    refine Xg.ops_op (by kernel_rfl) (Xg.opx_pure ((Value.bool true)) rfl (fun _ => by kernel_rfl) ?_)
    refine Xg.ops_op (by kernel_rfl) (Xg.opx_pure ((pv xb1 3)) rfl (fun _ => by kernel_rfl) ?_)
    refine Xg.ops_op (by kernel_rfl) (Xg.opx_load (b := xb1) (off := ((3 : Nat))) 1 (iv 0) rfl (by kernel_rfl) (by kernel_rfl) (by kernel_rfl) ?_)
    refine Xg.ops_op (by kernel_rfl) (Xg.opx_pure ((pv xb2 3)) rfl (fun _ => by kernel_rfl) ?_)
    refine Xg.ops_op (by kernel_rfl) (Xg.opx_load (b := xb2) (off := ((3 : Nat))) 0 (iv h.bk) rfl (by kernel_rfl) (by kernel_rfl) (by kernel_rfl) ?_)
    refine Xg.ops_op (by kernel_rfl) (Xg.opx_pure (.bool (decide ((((0 : Int)) : Int) = h.bk))) rfl (fun _ => by kernel_rfl) ?_)
    refine Xg.ops_flag (j := 29) (c := (decide ((0 : Int) = h.bk))) (by kernel_rfl) (fun xh4 => ?_) (fun xh4 => ?_)
    replace xh4 : ((0 : Int) = h.bk) := of_decide_eq_true xh4
    rotate_left
    replace xh4 : ¬ (((0 : Int) = h.bk)) := of_decide_eq_false xh4
    rotate_right
    refine Xg.ops_op (by kernel_rfl) (Xg.opx_pure ((Value.bool true)) rfl (fun _ => by kernel_rfl) ?_)
    refine Xg.ops_op (by kernel_rfl) (Xg.opx_pure ((Value.bool true)) rfl (fun _ => by kernel_rfl) ?_)
    refine Xg.ops_op (by kernel_rfl) (Xg.opx_pure ((pv xb1 4)) rfl (fun _ => by kernel_rfl) ?_)
    refine Xg.ops_op (by kernel_rfl) (Xg.opx_load (b := xb1) (off := ((4 : Nat))) 1 (iv 0) rfl (by kernel_rfl) (by kernel_rfl) (by kernel_rfl) ?_)
    refine Xg.ops_op (by kernel_rfl) (Xg.opx_pure ((pv xb2 4)) rfl (fun _ => by kernel_rfl) ?_)
    refine Xg.ops_op (by kernel_rfl) (Xg.opx_load (b := xb2) (off := ((4 : Nat))) 0 (iv h.rm) rfl (by kernel_rfl) (by kernel_rfl) (by kernel_rfl) ?_)
    refine Xg.ops_op (by kernel_rfl) (Xg.opx_pure (.bool (decide ((((0 : Int)) : Int) = h.rm))) rfl (fun _ => by kernel_rfl) ?_)
    refine Xg.ops_flag (j := 36) (c := (decide ((0 : Int) = h.rm))) (by kernel_rfl) (fun xh5 => ?_) (fun xh5 => ?_)
    replace xh5 : ((0 : Int) = h.rm) := of_decide_eq_true xh5
    rotate_left
    replace xh5 : ¬ (((0 : Int) = h.rm)) := of_decide_eq_false xh5
    rotate_right
    refine Xg.ops_op (by kernel_rfl) (Xg.opx_pure ((Value.bool true)) rfl (fun _ => by kernel_rfl) ?_)
    refine Xg.ops_op (by kernel_rfl) (Xg.opx_pure ((Value.bool true)) rfl (fun _ => by kernel_rfl) ?_)
    refine Xg.ops_op (by kernel_rfl) (Xg.opx_pure ((pv xb1 5)) rfl (fun _ => by kernel_rfl) ?_)
    refine Xg.ops_op (by kernel_rfl) (Xg.opx_load (b := xb1) (off := ((5 : Nat))) 1 (Value.bool false) rfl (by kernel_rfl) (by kernel_rfl) (by kernel_rfl) ?_)
    refine Xg.ops_op (by kernel_rfl) (Xg.opx_pure ((pv xb2 5)) rfl (fun _ => by kernel_rfl) ?_)
    refine Xg.ops_op (by kernel_rfl) (Xg.opx_load (b := xb2) (off := ((5 : Nat))) 0 (Value.bool h.bt) rfl (by kernel_rfl) (by kernel_rfl) (by kernel_rfl) ?_)
    refine Xg.ops_op (by kernel_rfl) (Xg.opx_eq (v := ((Value.bool (false == h.bt)))) (.bool (!h.bt)) rfl (fun _ => by kernel_rfl) (by generalize (h.bt : Bool) = bb; cases bb <;> rfl) ?_)
    refine Xg.ops_flag (j := 43) (c := !h.bt) (by kernel_rfl) (fun xh6 => ?_) (fun xh6 => ?_)
    replace xh6 : h.bt = false := by simpa using xh6
    rotate_left
    replace xh6 : h.bt = true := by simpa using xh6
    rotate_right
    refine Xg.ops_op (by kernel_rfl) (Xg.opx_pure ((Value.bool true)) rfl (fun _ => by kernel_rfl) ?_)
    refine Xg.ops_op (by kernel_rfl) (Xg.opx_pure ((Value.bool true)) rfl (fun _ => by kernel_rfl) ?_)
    refine Xg.ops_nil ?_
    refine Xg.at_ret_ps (v := (Value.bool true)) [] [] Go.Proofs.Tryd.func11 (fun _ => by kernel_rfl) (by kernel_rfl) (by kernel_rfl) ?_
    rotate_left
    refine Xg.ops_op (by kernel_rfl) (Xg.opx_pure ((Value.bool false)) rfl (fun _ => by kernel_rfl) ?_)
    refine Xg.ops_op (by kernel_rfl) (Xg.opx_pure ((Value.bool false)) rfl (fun _ => by kernel_rfl) ?_)
    refine Xg.ops_nil ?_
    refine Xg.at_ret_ps (v := (Value.bool false)) [] [] Go.Proofs.Tryd.func11 (fun _ => by kernel_rfl) (by kernel_rfl) (by kernel_rfl) ?_
    exact ⟨by kernel_rfl, by kernel_rfl⟩
    refine Xg.ops_op (by kernel_rfl) (Xg.opx_pure ((Value.bool false)) rfl (fun _ => by kernel_rfl) ?_)
    refine Xg.ops_op (by kernel_rfl) (Xg.opx_pure ((Value.bool false)) rfl (fun _ => by kernel_rfl) ?_)
    refine Xg.ops_skip (by kernel_rfl) ?_
    refine Xg.ops_skip (by kernel_rfl) ?_
    refine Xg.ops_skip (by kernel_rfl) ?_
    refine Xg.ops_skip (by kernel_rfl) ?_
    refine Xg.ops_skip (by kernel_rfl) ?_
    refine Xg.ops_op (by kernel_rfl) (Xg.opx_pure ((Value.bool false)) rfl (fun _ => by kernel_rfl) ?_)
    refine Xg.ops_op (by kernel_rfl) (Xg.opx_pure ((Value.bool false)) rfl (fun _ => by kernel_rfl) ?_)
    refine Xg.ops_nil ?_
    refine Xg.at_ret_ps (v := (Value.bool false)) [] [] Go.Proofs.Tryd.func11 (fun _ => by kernel_rfl) (by kernel_rfl) (by kernel_rfl) ?_
    exact ⟨by kernel_rfl, by kernel_rfl⟩
    refine Xg.ops_op (by kernel_rfl) (Xg.opx_pure ((Value.bool false)) rfl (fun _ => by kernel_rfl) ?_)
    refine Xg.ops_op (by kernel_rfl) (Xg.opx_pure ((Value.bool false)) rfl (fun _ => by kernel_rfl) ?_)
    refine Xg.ops_skip (by kernel_rfl) ?_
    refine Xg.ops_skip (by kernel_rfl) ?_
    refine Xg.ops_skip (by kernel_rfl) ?_
    refine Xg.ops_skip (by kernel_rfl) ?_
    refine Xg.ops_skip (by kernel_rfl) ?_
    refine Xg.ops_op (by kernel_rfl) (Xg.opx_pure ((Value.bool false)) rfl (fun _ => by kernel_rfl) ?_)
    refine Xg.ops_op (by kernel_rfl) (Xg.opx_pure ((Value.bool false)) rfl (fun _ => by kernel_rfl) ?_)
    refine Xg.ops_skip (by kernel_rfl) ?_
    refine Xg.ops_skip (by kernel_rfl) ?_
    refine Xg.ops_skip (by kernel_rfl) ?_
    refine Xg.ops_skip (by kernel_rfl) ?_
    refine Xg.ops_skip (by kernel_rfl) ?_
    refine Xg.ops_op (by kernel_rfl) (Xg.opx_pure ((Value.bool false)) rfl (fun _ => by kernel_rfl) ?_)
    refine Xg.ops_op (by kernel_rfl) (Xg.opx_pure ((Value.bool false)) rfl (fun _ => by kernel_rfl) ?_)
    refine Xg.ops_nil ?_
    refine Xg.at_ret_ps (v := (Value.bool false)) [] [] Go.Proofs.Tryd.func11 (fun _ => by kernel_rfl) (by kernel_rfl) (by kernel_rfl) ?_
    exact ⟨by kernel_rfl, by kernel_rfl⟩
    refine Xg.ops_op (by kernel_rfl) (Xg.opx_pure ((Value.bool false)) rfl (fun _ => by kernel_rfl) ?_)
    refine Xg.ops_op (by kernel_rfl) (Xg.opx_pure ((Value.bool false)) rfl (fun _ => by kernel_rfl) ?_)
    refine Xg.ops_skip (by kernel_rfl) ?_
    refine Xg.ops_skip (by kernel_rfl) ?_
    refine Xg.ops_skip (by kernel_rfl) ?_
    refine Xg.ops_skip (by kernel_rfl) ?_
    refine Xg.ops_skip (by kernel_rfl) ?_
    refine Xg.ops_op (by kernel_rfl) (Xg.opx_pure ((Value.bool false)) rfl (fun _ => by kernel_rfl) ?_)
    refine Xg.ops_op (by kernel_rfl) (Xg.opx_pure ((Value.bool false)) rfl (fun _ => by kernel_rfl) ?_)
    refine Xg.ops_skip (by kernel_rfl) ?_
    refine Xg.ops_skip (by kernel_rfl) ?_
    refine Xg.ops_skip (by kernel_rfl) ?_
    refine Xg.ops_skip (by kernel_rfl) ?_
    refine Xg.ops_skip (by kernel_rfl) ?_
    refine Xg.ops_op (by kernel_rfl) (Xg.opx_pure ((Value.bool false)) rfl (fun _ => by kernel_rfl) ?_)
    refine Xg.ops_op (by kernel_rfl) (Xg.opx_pure ((Value.bool false)) rfl (fun _ => by kernel_rfl) ?_)
    refine Xg.ops_skip (by kernel_rfl) ?_
    refine Xg.ops_skip (by kernel_rfl) ?_
    refine Xg.ops_skip (by kernel_rfl) ?_
    refine Xg.ops_skip (by kernel_rfl) ?_
    refine Xg.ops_skip (by kernel_rfl) ?_
    refine Xg.ops_op (by kernel_rfl) (Xg.opx_pure ((Value.bool false)) rfl (fun _ => by kernel_rfl) ?_)
    refine Xg.ops_op (by kernel_rfl) (Xg.opx_pure ((Value.bool false)) rfl (fun _ => by kernel_rfl) ?_)
    refine Xg.ops_nil ?_
    refine Xg.at_ret_ps (v := (Value.bool false)) [] [] Go.Proofs.Tryd.func11 (fun _ => by kernel_rfl) (by kernel_rfl) (by kernel_rfl) ?_
    exact ⟨by kernel_rfl, by kernel_rfl⟩
    refine Xg.ops_op (by kernel_rfl) (Xg.opx_pure ((Value.bool false)) rfl (fun _ => by kernel_rfl) ?_)
    refine Xg.ops_op (by kernel_rfl) (Xg.opx_pure ((Value.bool false)) rfl (fun _ => by kernel_rfl) ?_)
    refine Xg.ops_skip (by kernel_rfl) ?_
    refine Xg.ops_skip (by kernel_rfl) ?_
    refine Xg.ops_skip (by kernel_rfl) ?_
    refine Xg.ops_skip (by kernel_rfl) ?_
    refine Xg.ops_skip (by kernel_rfl) ?_
    refine Xg.ops_op (by kernel_rfl) (Xg.opx_pure ((Value.bool false)) rfl (fun _ => by kernel_rfl) ?_)
    refine Xg.ops_op (by kernel_rfl) (Xg.opx_pure ((Value.bool false)) rfl (fun _ => by kernel_rfl) ?_)
    refine Xg.ops_skip (by kernel_rfl) ?_
    refine Xg.ops_skip (by kernel_rfl) ?_
    refine Xg.ops_skip (by kernel_rfl) ?_
    refine Xg.ops_skip (by kernel_rfl) ?_
    refine Xg.ops_skip (by kernel_rfl) ?_
    refine Xg.ops_op (by kernel_rfl) (Xg.opx_pure ((Value.bool false)) rfl (fun _ => by kernel_rfl) ?_)
    refine Xg.ops_op (by kernel_rfl) (Xg.opx_pure ((Value.bool false)) rfl (fun _ => by kernel_rfl) ?_)
    refine Xg.ops_skip (by kernel_rfl) ?_
    refine Xg.ops_skip (by kernel_rfl) ?_
    refine Xg.ops_skip (by kernel_rfl) ?_
    refine Xg.ops_skip (by kernel_rfl) ?_
    refine Xg.ops_skip (by kernel_rfl) ?_
    refine Xg.ops_op (by kernel_rfl) (Xg.opx_pure ((Value.bool false)) rfl (fun _ => by kernel_rfl) ?_)
    refine Xg.ops_op (by kernel_rfl) (Xg.opx_pure ((Value.bool false)) rfl (fun _ => by kernel_rfl) ?_)
    refine Xg.ops_skip (by kernel_rfl) ?_
    refine Xg.ops_skip (by kernel_rfl) ?_
    refine Xg.ops_skip (by kernel_rfl) ?_
    refine Xg.ops_skip (by kernel_rfl) ?_
    refine Xg.ops_skip (by kernel_rfl) ?_
    refine Xg.ops_op (by kernel_rfl) (Xg.opx_pure ((Value.bool false)) rfl (fun _ => by kernel_rfl) ?_)
    refine Xg.ops_op (by kernel_rfl) (Xg.opx_pure ((Value.bool false)) rfl (fun _ => by kernel_rfl) ?_)
    refine Xg.ops_nil ?_
    refine Xg.at_ret_ps (v := (Value.bool false)) [] [] Go.Proofs.Tryd.func11 (fun _ => by kernel_rfl) (by kernel_rfl) (by kernel_rfl) ?_
    exact ⟨by kernel_rfl, by kernel_rfl⟩
    refine Xg.ops_skip (by kernel_rfl) ?_
    refine Xg.ops_skip (by kernel_rfl) ?_
    refine Xg.ops_skip (by kernel_rfl) ?_
    refine Xg.ops_skip (by kernel_rfl) ?_
    refine Xg.ops_skip (by kernel_rfl) ?_
    refine Xg.ops_op (by kernel_rfl) (Xg.opx_pure ((Value.bool false)) rfl (fun _ => by kernel_rfl) ?_)
    refine Xg.ops_op (by kernel_rfl) (Xg.opx_pure ((Value.bool false)) rfl (fun _ => by kernel_rfl) ?_)
    refine Xg.ops_skip (by kernel_rfl) ?_
    refine Xg.ops_skip (by kernel_rfl) ?_
    refine Xg.ops_skip (by kernel_rfl) ?_
    refine Xg.ops_skip (by kernel_rfl) ?_
    refine Xg.ops_skip (by kernel_rfl) ?_
    refine Xg.ops_op (by kernel_rfl) (Xg.opx_pure ((Value.bool false)) rfl (fun _ => by kernel_rfl) ?_)
    refine Xg.ops_op (by kernel_rfl) (Xg.opx_pure ((Value.bool false)) rfl (fun _ => by kernel_rfl) ?_)
    refine Xg.ops_skip (by kernel_rfl) ?_
    refine Xg.ops_skip (by kernel_rfl) ?_
    refine Xg.ops_skip (by kernel_rfl) ?_
    refine Xg.ops_skip (by kernel_rfl) ?_
    refine Xg.ops_skip (by kernel_rfl) ?_
    refine Xg.ops_op (by kernel_rfl) (Xg.opx_pure ((Value.bool false)) rfl (fun _ => by kernel_rfl) ?_)
    refine Xg.ops_op (by kernel_rfl) (Xg.opx_pure ((Value.bool false)) rfl (fun _ => by kernel_rfl) ?_)
    refine Xg.ops_skip (by kernel_rfl) ?_
    refine Xg.ops_skip (by kernel_rfl) ?_
    refine Xg.ops_skip (by kernel_rfl) ?_
    refine Xg.ops_skip (by kernel_rfl) ?_
    refine Xg.ops_skip (by kernel_rfl) ?_
    refine Xg.ops_op (by kernel_rfl) (Xg.opx_pure ((Value.bool false)) rfl (fun _ => by kernel_rfl) ?_)
    refine Xg.ops_op (by kernel_rfl) (Xg.opx_pure ((Value.bool false)) rfl (fun _ => by kernel_rfl) ?_)
    refine Xg.ops_skip (by kernel_rfl) ?_
    refine Xg.ops_skip (by kernel_rfl) ?_
    refine Xg.ops_skip (by kernel_rfl) ?_
    refine Xg.ops_skip (by kernel_rfl) ?_
    refine Xg.ops_skip (by kernel_rfl) ?_
    refine Xg.ops_op (by kernel_rfl) (Xg.opx_pure ((Value.bool false)) rfl (fun _ => by kernel_rfl) ?_)
    refine Xg.ops_op (by kernel_rfl) (Xg.opx_pure ((Value.bool false)) rfl (fun _ => by kernel_rfl) ?_)
    refine Xg.ops_nil ?_
    refine Xg.at_ret_ps (v := (Value.bool false)) [] [] Go.Proofs.Tryd.func11 (fun _ => by kernel_rfl) (by kernel_rfl) (by kernel_rfl) ?_
    exact ⟨by kernel_rfl, by kernel_rfl⟩)
  all_goals (rw [hs] at xh1; cases xh1)
theorem read_low5 (κ : Nat) (r : Rg) (bk : Int) (R M : List Int) (h : lowB κ r = 0) : readI κ r bk R M 512 = R.getD 512 0 := read_low κ r bk R M 512 h (by decide)
end Go.Proofs.YthjhkondmobaeaaDoor

/- cart: a cartridge of any kind, one part. -/
namespace Go.Proofs.YthjhkondmobaeaaDoor
open Go.Sl Go.Xg
set_option linter.unusedVariables false
set_option linter.unusedSimpArgs false
set_option maxHeartbeats 4000000
set_option maxRecDepth 100000

/-- Where it lies. -/
structure CtA where
  p : Nat
  mb : Nat
  ra : Option Addr
  rc : Nat
  ma : Option Addr
  deriving Inhabited
/-- Its blocks. -/
def ctL (κ : Nat) (x : CtA) (h : Hd) (r : Rg) (R M : List Int) : List HP := match κ with
  | 0 => [CR x.p h x.ra R.length x.rc x.ma M.length M.length (V0 x.mb), bts x.ra R.length x.rc R, bts x.ma M.length M.length M]
  | 1 => [CR x.p h x.ra R.length x.rc x.ma M.length M.length (V1 x.mb), bts x.ra R.length x.rc R, bts x.ma M.length M.length M, MR1 x.mb r]
  | 2 => [CR x.p h x.ra R.length x.rc x.ma M.length M.length (V2 x.mb), bts x.ra R.length x.rc R, bts x.ma M.length M.length M, MR2 x.mb r]
  | 3 => [CR x.p h x.ra R.length x.rc x.ma M.length M.length (V3 x.mb), bts x.ra R.length x.rc R, bts x.ma M.length M.length M, MR3 x.mb r]
  | _ => [CR x.p h x.ra R.length x.rc x.ma M.length M.length (V5 x.mb), bts x.ra R.length x.rc R, bts x.ma M.length M.length M, MR5 x.mb r]
/-- .. one part. -/
def CTP (κ : Nat) (x : CtA) (h : Hd) (r : Rg) (R M : List Int) : HP := seps (ctL κ x h r R M)
structure CtOk (κ : Nat) (x : CtA) (h : Hd) (r : Rg) (R M : List Int) : Prop where
  k : κ = 0 ∨ κ = 1 ∨ κ = 2 ∨ κ = 3 ∨ κ = 5
  mp : h.mp = (κ : Int)
  r : r.Ok
  bk : 2 ≤ h.bk ∧ h.bk ≤ 128
  rl : (R.length : Int) = 16384 * h.bk
  rc : R.length ≤ x.rc
  b : isB M
  ram : ramOk κ M.length
/-- What a write does to the registers. -/
def regK (κ : Nat) (r : Rg) (a v : Int) : Rg := match κ with
  | 0 => r
  | 1 => regW1 r a v
  | 2 => regW2 r a v
  | 3 => regW3 r a v
  | _ => regW5 r a v
theorem conv_ct {κ : Nat} {x : CtA} {h : Hd} {r r2 : Rg} {R M M2 : List Int} {f : FuncId} {args : List Value} {v : Value}
    (hd : Does Tryd.prog f args (ctL κ x h r R M) (Ret v (ctL κ x h r2 R M2))) : Does Tryd.prog f args [CTP κ x h r R M] (Ret v [CTP κ x h r2 R M2]) :=
  (does_conv (K := []) (ret_e hd) (fun g w F hS => SL.flat.1 hS) fun _ _ g w F hS => ⟨(), trivial, rfl, SL.flat.2 hS⟩ : Does Tryd.prog f args [CTP κ x h r R M] (RetE (fun _ : Unit => True) (fun _ => v) (fun _ => [CTP κ x h r2 R M2]))).mono fun _ _ ⟨_, _, e1, e2⟩ => ⟨e1, e2⟩
theorem readK_d {κ : Nat} {x : CtA} {h : Hd} {r : Rg} {R M : List Int} (hk : CtOk κ x h r R M) (a : Int) (ha : iok a) : Does Tryd.prog 12 [.pointer (some ⟨x.p, 0, none⟩), .int .i64 a] [CTP κ x h r R M] (Ret (.int .u8 (readI κ r h.bk R M a)) [CTP κ x h r R M]) := by
  obtain ⟨k, mp, r9, bk, rl, rc, b, ram⟩ := hk
  refine conv_ct ?_
  rcases k with e | e | e | e | e <;> subst e
  · exact read0_d x.p x.mb h r x.ra _ x.rc x.ma _ _ R M a ha r9 bk rfl rl rc rfl (Nat.le_refl _) b mp ram
  · exact read1_d x.p x.mb h r x.ra _ x.rc x.ma _ _ R M a ha r9 bk rfl rl rc rfl (Nat.le_refl _) b mp ram
  · exact read2_d x.p x.mb h r x.ra _ x.rc x.ma _ _ R M a ha r9 bk rfl rl rc rfl (Nat.le_refl _) b mp ram
  · exact read3_d x.p x.mb h r x.ra _ x.rc x.ma _ _ R M a ha r9 bk rfl rl rc rfl (Nat.le_refl _) b mp ram
  · exact read5_d x.p x.mb h r x.ra _ x.rc x.ma _ _ R M a ha r9 bk rfl rl rc rfl (Nat.le_refl _) b mp ram
/-- What lies in the RAM behind a write of v. -/
def ramV (κ : Nat) (v : Int) : Int := if κ = 2 then v % 16 else v
/-- New without a save, of any kind. -/
theorem newK_d (A : HP) (a : Option Addr) (n c : Nat) (B : List Int) (h : Hd) (κ mn : Nat) (hn : B.length = n) (hc : n ≤ c) (hm : n ≤ 100000000) (ha : a.isNone = false) (hB : isB B) (hR : Reads A 1 (.slice a n c) n (B.map (Value.int .u8))) (he : chk B = (h, 0)) (hn0 : 0 < n) (hk : κ = 0 ∨ κ = 1 ∨ κ = 2 ∨ κ = 3 ∨ κ = 5) (hmp : h.mp = (κ : Int)) (hrm : h.rm = (mn : Int)) (hmn : mn ≤ 131072) :
    Does Tryd.prog 10 [.slice a n c, .slice none 0 0] [A] (RetE (fun x : CtA => n ≤ x.rc) (fun x => .tuple #[.pointer (some ⟨x.p, 0, none⟩), .int .i64 0]) (fun x => [CTP κ x h rg0 B (List.replicate mn 0), A])) := by
  rcases hk with e | e | e | e | e <;> subst e
  · refine does_conv (K := []) (new0_d A a n c B h mn hn hc hm ha hB hR he hn0 hmp hrm hmn) (fun g w F hS => hS) fun y hy g w F hS => ⟨⟨y.1, y.2.1, y.2.2.1, y.2.2.2.1, y.2.2.2.2⟩, hy, rfl, ?_⟩
    have h1 : SL g ([CR y.1 h y.2.2.1 n y.2.2.2.1 y.2.2.2.2 mn mn (V0 y.2.1), bts y.2.2.1 n y.2.2.2.1 B, bts y.2.2.2.2 mn mn (List.replicate mn 0)] ++ (A :: F)) w := hS
    refine SL.flat.2 ?_
    show SL g ([CR y.1 h y.2.2.1 B.length y.2.2.2.1 y.2.2.2.2 (List.replicate mn (0 : Int)).length (List.replicate mn (0 : Int)).length (V0 y.2.1), bts y.2.2.1 B.length y.2.2.2.1 B, bts y.2.2.2.2 (List.replicate mn (0 : Int)).length (List.replicate mn (0 : Int)).length (List.replicate mn 0)] ++ (A :: F)) w
    rw [List.length_replicate, hn]
    exact h1
  · refine does_conv (K := []) (new1_d A a n c B h mn hn hc hm ha hB hR he hn0 hmp hrm hmn) (fun g w F hS => hS) fun y hy g w F hS => ⟨⟨y.1, y.2.1, y.2.2.1, y.2.2.2.1, y.2.2.2.2⟩, hy, rfl, ?_⟩
    have h1 : SL g ([CR y.1 h y.2.2.1 n y.2.2.2.1 y.2.2.2.2 mn mn (V1 y.2.1), bts y.2.2.1 n y.2.2.2.1 B, bts y.2.2.2.2 mn mn (List.replicate mn 0), MR1 y.2.1 rg0] ++ (A :: F)) w := hS
    refine SL.flat.2 ?_
    show SL g ([CR y.1 h y.2.2.1 B.length y.2.2.2.1 y.2.2.2.2 (List.replicate mn (0 : Int)).length (List.replicate mn (0 : Int)).length (V1 y.2.1), bts y.2.2.1 B.length y.2.2.2.1 B, bts y.2.2.2.2 (List.replicate mn (0 : Int)).length (List.replicate mn (0 : Int)).length (List.replicate mn 0), MR1 y.2.1 rg0] ++ (A :: F)) w
    rw [List.length_replicate, hn]
    exact h1
  · refine does_conv (K := []) (new2_d A a n c B h mn hn hc hm ha hB hR he hn0 hmp hrm hmn) (fun g w F hS => hS) fun y hy g w F hS => ⟨⟨y.1, y.2.1, y.2.2.1, y.2.2.2.1, y.2.2.2.2⟩, hy, rfl, ?_⟩
    have h1 : SL g ([CR y.1 h y.2.2.1 n y.2.2.2.1 y.2.2.2.2 mn mn (V2 y.2.1), bts y.2.2.1 n y.2.2.2.1 B, bts y.2.2.2.2 mn mn (List.replicate mn 0), MR2 y.2.1 rg0] ++ (A :: F)) w := hS
    refine SL.flat.2 ?_
    show SL g ([CR y.1 h y.2.2.1 B.length y.2.2.2.1 y.2.2.2.2 (List.replicate mn (0 : Int)).length (List.replicate mn (0 : Int)).length (V2 y.2.1), bts y.2.2.1 B.length y.2.2.2.1 B, bts y.2.2.2.2 (List.replicate mn (0 : Int)).length (List.replicate mn (0 : Int)).length (List.replicate mn 0), MR2 y.2.1 rg0] ++ (A :: F)) w
    rw [List.length_replicate, hn]
    exact h1
  · refine does_conv (K := []) (new3_d A a n c B h mn hn hc hm ha hB hR he hn0 hmp hrm hmn) (fun g w F hS => hS) fun y hy g w F hS => ⟨⟨y.1, y.2.1, y.2.2.1, y.2.2.2.1, y.2.2.2.2⟩, hy, rfl, ?_⟩
    have h1 : SL g ([CR y.1 h y.2.2.1 n y.2.2.2.1 y.2.2.2.2 mn mn (V3 y.2.1), bts y.2.2.1 n y.2.2.2.1 B, bts y.2.2.2.2 mn mn (List.replicate mn 0), MR3 y.2.1 rg0] ++ (A :: F)) w := hS
    refine SL.flat.2 ?_
    show SL g ([CR y.1 h y.2.2.1 B.length y.2.2.2.1 y.2.2.2.2 (List.replicate mn (0 : Int)).length (List.replicate mn (0 : Int)).length (V3 y.2.1), bts y.2.2.1 B.length y.2.2.2.1 B, bts y.2.2.2.2 (List.replicate mn (0 : Int)).length (List.replicate mn (0 : Int)).length (List.replicate mn 0), MR3 y.2.1 rg0] ++ (A :: F)) w
    rw [List.length_replicate, hn]
    exact h1
  · refine does_conv (K := []) (new5_d A a n c B h mn hn hc hm ha hB hR he hn0 hmp hrm hmn) (fun g w F hS => hS) fun y hy g w F hS => ⟨⟨y.1, y.2.1, y.2.2.1, y.2.2.2.1, y.2.2.2.2⟩, hy, rfl, ?_⟩
    have h1 : SL g ([CR y.1 h y.2.2.1 n y.2.2.2.1 y.2.2.2.2 mn mn (V5 y.2.1), bts y.2.2.1 n y.2.2.2.1 B, bts y.2.2.2.2 mn mn (List.replicate mn 0), MR5 y.2.1 rg0] ++ (A :: F)) w := hS
    refine SL.flat.2 ?_
    show SL g ([CR y.1 h y.2.2.1 B.length y.2.2.2.1 y.2.2.2.2 (List.replicate mn (0 : Int)).length (List.replicate mn (0 : Int)).length (V5 y.2.1), bts y.2.2.1 B.length y.2.2.2.1 B, bts y.2.2.2.2 (List.replicate mn (0 : Int)).length (List.replicate mn (0 : Int)).length (List.replicate mn 0), MR5 y.2.1 rg0] ++ (A :: F)) w
    rw [List.length_replicate, hn]
    exact h1
end Go.Proofs.YthjhkondmobaeaaDoor

/- cart's law: a header is strict, of any type. -/
namespace Go.Proofs.YthjhkondmobaeaaDoor
open Go.Sl Go.Xg
set_option linter.unusedVariables false
set_option linter.unusedSimpArgs false
set_option maxHeartbeats 4000000
set_option maxRecDepth 100000

theorem strict_any (te : TypeId) (A : HP) (ta : Option Addr) (tc : Nat) (Tl : List Int) (hTl : Tl.length = 10) (hT : Reads A 1 (.slice ta 10 tc) 10 (Tl.map (Value.int .i64))) (w at0 by0 : Int) (hw : iok w) (hat : iok at0) (hby : iok by0) (q9 : Nat) (t rr : Int) (κ mn : Nat) (kd : Kd) (hq : pickI w 10 = (q9 : Int)) (hqq : q9 < 10) (hTq : Tl.getD q9 0 = t) (ht : 0 ≤ t ∧ t ≤ 255) (hrr : 0 ≤ rr ∧ rr ≤ 255) (hcc : (t = 9 ∨ t = 3 ∨ t = 19 ∨ t = 27) ∧ rr = 2 ∨ (t ≠ 9 ∧ t ≠ 3 ∧ t ≠ 19 ∧ t ≠ 27) ∧ rr = 0) (hkd : kdOf t = some kd) (hcl : rr ∈ kd.cl) (hkb : bnk 0 ≤ kd.bk) (hk5 : κ = 0 ∨ κ = 1 ∨ κ = 2 ∨ κ = 3 ∨ κ = 5) (hkm : kd.mp = (κ : Int)) (hmn : (if kd.mp = 2 then 512 else rmC rr) = (mn : Int)) (hmn2 : mn ≤ 131072) (hram : ramOk κ mn) :
    Does Tryd.prog 3 [.int .i64 w, .int .i64 at0, .int .i64 by0] [A, TyP te ta tc] (Ret (.bool true) [A, TyP te ta tc]) := by
  have hpw := pick_d w 10 hw (by decide)
  rw [hq] at hpw
  have hp74 := pick_d at0 74 hat (by decide)
  have hl74 := pick_lt at0 74 (by decide)
  obtain ⟨q, hq74⟩ : ∃ q : Nat, pickI at0 74 = (q : Int) := ⟨(pickI at0 74).toNat, by omega⟩
  rw [hq74] at hp74 hl74
  have hpb := pick_d by0 255 hby (by decide)
  have hlb := pick_lt by0 255 (by decide)
  obtain ⟨pb, hpbe⟩ : ∃ pb : Int, pickI by0 255 = pb := ⟨_, rfl⟩
  rw [hpbe] at hpb hlb
  have hpf := pick_d by0 32432 hby (by decide)
  have hlf := pick_lt by0 32432 (by decide)
  obtain ⟨fr, hfr⟩ : ∃ f : Nat, pickI by0 32432 = (f : Int) := ⟨(pickI by0 32432).toNat, by omega⟩
  rw [hfr] at hpf hlf
  have hpn := pick_d at0 260 hat (by decide)
  have hln := pick_lt at0 260 (by decide)
  obtain ⟨pn, hpne⟩ : ∃ p : Nat, pickI at0 260 = (p : Int) := ⟨(pickI at0 260).toNat, by omega⟩
  rw [hpne] at hpn hln
  have hr0 := rom_own A t 0 rr at0 ⟨by omega, by omega⟩ (by decide) ⟨by omega, by omega⟩ hat 32768 (by decide)
  (focus
    refine Xg.spec_of Go.Proofs.Tryd.func3 rfl Go.Proofs.Tryd.ntmps3 fun g F => ?_)
  (focus
    refine Xg.at_seq ?_
    refine Xg.at_region ?_
    refine Xg.ops_op (by kernel_rfl) (Xg.opx_pure ((Value.bool false)) rfl (fun _ => by kernel_rfl) ?_)
    refine Xg.ops_nil ?_
    refine Xg.at_seq ?_
    refine Xg.at_draw [2] [(0, [0, 1, 2], Xg.CellIs (((0 : Nat))) (((0 : Nat))) ((Value.slice ta (10 : Nat) tc))), (3, [0, 1, 2, 3], (RdIs (1 : Nat) (Value.slice ta (10 : Nat) tc) (10 : Nat) (List.map (Value.int IntKind.i64) Tl))), (4, [0, 1, 2, 3, 4], (RdIs (1 : Nat) (Value.slice ta (10 : Nat) tc) (10 : Nat) (List.map (Value.int IntKind.i64) Tl)))] (by kernel_rfl) ?_
    refine Xg.any_reads (Value.slice ta (10 : Nat) tc) 0 0 (by kernel_rfl) rfl (by kernel_rfl) (by kernel_rfl) (by kernel_rfl) (by kernel_rfl) rfl rfl (by kernel_rfl) (Xg.cell_now (b := ((0 : Nat))) (off := ((0 : Nat))) 1 rfl (by kernel_rfl)) (fun _ h => Xg.run_load (by kernel_rfl) (by kernel_rfl) h) ?_
    refine Xg.any_pure ((iv w)) 1 (by kernel_rfl) rfl (by kernel_rfl) (by kernel_rfl) (by kernel_rfl) (by kernel_rfl) rfl (fun _ => by kernel_rfl) ?_
    refine Xg.any_each [2] (by kernel_rfl) rfl ⟨?_, trivial⟩
    refine Xg.comes_act rfl (by kernel_rfl) (by kernel_rfl) (Xg.opx_call1' [] [A, TyP te ta tc] (fun _ => by kernel_rfl) (@hpw ) (by kernel_rfl) (by kernel_rfl) (by kernel_rfl) ?_)
    refine Xg.acts (Xg.owes_cell 1 rfl (by kernel_rfl) (Xg.owes_rd 0 hT (by kernel_rfl) (Xg.owes_rd 0 hT (by kernel_rfl) Xg.owes_nil))) ?_
    refine Xg.any_reads (.pointer (some (Addr.mk (Xg.blk ta) (offA ta + q9) none))) 3 1 (by kernel_rfl) rfl (by kernel_rfl) (by kernel_rfl) (by kernel_rfl) (by kernel_rfl) rfl rfl (by kernel_rfl) (Xg.rd_now 0 hT (by kernel_rfl)) (Xg.run_ix_rd (elem := 3) (kd := .i64) (e := ((↑q9 : Int))) 1 q9 (offA ta + q9) (by kernel_rfl) (by kernel_rfl) (by kernel_rfl) (by kernel_rfl) rfl (by omega) (by simp only [List.length_map]; omega) (by omega)) ?_
    refine Xg.any_reads (iv (Tl.getD q9 (0 : Int))) 4 2 (by kernel_rfl) rfl (by kernel_rfl) (by kernel_rfl) (by kernel_rfl) (by kernel_rfl) rfl rfl (by kernel_rfl) (Xg.rd_now 0 hT (by kernel_rfl)) (Xg.run_load_rd (off0 := (offA ta + q9)) q9 (by kernel_rfl) (by omega) (Xg.get_ints (by omega)) (by kernel_rfl)) ?_
    refine Xg.any_pure ((iv (Tl.getD q9 (0 : Int)))) 5 (by kernel_rfl) rfl (by kernel_rfl) (by kernel_rfl) (by kernel_rfl) (by kernel_rfl) rfl (fun _ => by kernel_rfl) ?_
    refine Xg.any_nil (by kernel_rfl) ?_
    refine Xg.at_seq ?_)
  rw [hTq]
  (focus
    refine Xg.at_region ?_
    refine Xg.ops_op (by kernel_rfl) (Xg.opx_pure ((iv 0)) rfl (fun _ => by kernel_rfl) ?_)
    refine Xg.ops_nil ?_
    refine Xg.at_seq ?_
    refine Xg.at_seq ?_)
  (focus
    refine Xg.at_cut2 (α := (Int) × (Nat → Value)) (fun x9 => ((fun c => rr = c) : (Int) → Prop) x9.1) (fun x9 => Xg.headT [iv w, iv at0, iv by0, tu, tu, tu, Value.bool false, iv t, iv 0, tu, tu, tu, tu, tu, tu, tu, tu, tu, tu, tu, tu, tu, tu, tu, tu, tu, Value.slice ta (10 : Nat) tc, iv w, iv (↑q9 : Int), Value.pointer (some (Addr.mk (blk ta) (offA ta + q9) none)), iv t, tu, tu, tu, tu, tu, tu, tu, tu, tu, tu, tu, tu, tu, tu, tu, tu, tu, tu, tu, tu, tu, tu, tu, tu, tu, tu, tu, tu, tu, tu, tu, tu, tu, tu, tu, tu, tu, tu, tu, tu, tu, tu, tu, tu, tu, tu, tu, tu, tu, tu, tu, tu, tu, tu, tu, tu, tu, tu, tu, tu, tu, tu, tu, tu, tu, tu, tu, tu, tu, tu, tu, tu, tu, tu, tu, tu, tu, tu, tu, tu, tu, tu, tu, tu, tu, tu, tu, tu, tu, tu, tu, tu, tu, tu, tu, tu, tu, tu, tu, tu, tu, tu, tu, tu, tu, tu, tu, tu, tu, tu, tu, tu, tu, tu, tu, tu, tu, tu, tu, tu, tu, tu, tu, tu, tu, tu, tu, tu, tu, tu, tu, tu, tu, tu, tu, tu, tu, tu, tu, tu, tu, tu, tu, tu, tu, tu, tu, tu, tu, tu, tu, tu, tu, tu, tu, tu, tu, tu, tu, tu, tu, tu, tu, tu, tu, tu, tu, tu, tu, tu, tu, tu, tu, tu, tu, tu, tu, tu, tu, tu, tu, tu, tu, tu, tu] [31, 32, 33, 34, 35, 36, 37, 38, 39, 40, 41, 42, 43, 44] (((fun c => [(8, .int .i64 c)]) : (Int) → List (Nat × Go.Value)) x9.1) x9.2) (fun x9 => ((fun c => [A, TyP te ta tc]) : (Int) → List Go.Sl.HP) x9.1) (fun kk hk => ?_) ?_)
  · (focus
      refine Xg.at_region ?_
      refine Xg.ops_op (by kernel_rfl) (Xg.opx_pure ((iv t)) rfl (fun _ => by kernel_rfl) ?_)
      refine Xg.ops_op (by kernel_rfl) (Xg.opx_pure (.bool (decide ((t : Int) = ((9 : Int))))) rfl (fun _ => by kernel_rfl) ?_)
      refine Xg.ops_op (by kernel_rfl) (Xg.opx_pure ((Value.bool (decide (t = (9 : Int))))) rfl (fun _ => by kernel_rfl) ?_)
      refine Xg.ops_flag (j := 33) (c := (decide (t = (9 : Int)))) (by kernel_rfl) (fun xh1 => ?_) (fun xh1 => ?_)
      replace xh1 : (t = (9 : Int)) := of_decide_eq_true xh1
      rotate_left
      replace xh1 : ¬ ((t = (9 : Int))) := of_decide_eq_false xh1
      rotate_right
      refine Xg.ops_skip (by kernel_rfl) ?_
      refine Xg.ops_skip (by kernel_rfl) ?_
      refine Xg.ops_op (by kernel_rfl) (Xg.opx_pure ((Value.bool true)) rfl (fun _ => by kernel_rfl) ?_)
      refine Xg.ops_op (by kernel_rfl) (Xg.opx_pure ((Value.bool true)) rfl (fun _ => by kernel_rfl) ?_)
      refine Xg.ops_skip (by kernel_rfl) ?_
      refine Xg.ops_skip (by kernel_rfl) ?_
      refine Xg.ops_op (by kernel_rfl) (Xg.opx_pure ((Value.bool true)) rfl (fun _ => by kernel_rfl) ?_)
      refine Xg.ops_op (by kernel_rfl) (Xg.opx_pure ((Value.bool true)) rfl (fun _ => by kernel_rfl) ?_)
      refine Xg.ops_skip (by kernel_rfl) ?_
      refine Xg.ops_skip (by kernel_rfl) ?_
      refine Xg.ops_op (by kernel_rfl) (Xg.opx_pure ((Value.bool true)) rfl (fun _ => by kernel_rfl) ?_)
      refine Xg.ops_nil ?_
      refine Xg.at_true (t := true) (by kernel_rfl) rfl ?_
      refine Xg.at_region ?_
      refine Xg.ops_op (by kernel_rfl) (Xg.opx_pure ((iv 2)) rfl (fun _ => by kernel_rfl) ?_)
      refine Xg.ops_nil ?_
      rotate_left
      refine Xg.ops_op (by kernel_rfl) (Xg.opx_pure ((iv t)) rfl (fun _ => by kernel_rfl) ?_)
      refine Xg.ops_op (by kernel_rfl) (Xg.opx_pure (.bool (decide ((t : Int) = ((3 : Int))))) rfl (fun _ => by kernel_rfl) ?_)
      refine Xg.ops_flag (j := 35) (c := (decide (t = (3 : Int)))) (by kernel_rfl) (fun xh2 => ?_) (fun xh2 => ?_)
      replace xh2 : (t = (3 : Int)) := of_decide_eq_true xh2
      rotate_left
      replace xh2 : ¬ ((t = (3 : Int))) := of_decide_eq_false xh2
      rotate_right
      refine Xg.ops_op (by kernel_rfl) (Xg.opx_pure ((Value.bool true)) rfl (fun _ => by kernel_rfl) ?_)
      refine Xg.ops_op (by kernel_rfl) (Xg.opx_pure ((Value.bool true)) rfl (fun _ => by kernel_rfl) ?_)
      refine Xg.ops_skip (by kernel_rfl) ?_
      refine Xg.ops_skip (by kernel_rfl) ?_
      refine Xg.ops_op (by kernel_rfl) (Xg.opx_pure ((Value.bool true)) rfl (fun _ => by kernel_rfl) ?_)
      refine Xg.ops_op (by kernel_rfl) (Xg.opx_pure ((Value.bool true)) rfl (fun _ => by kernel_rfl) ?_)
      refine Xg.ops_skip (by kernel_rfl) ?_
      refine Xg.ops_skip (by kernel_rfl) ?_
      refine Xg.ops_op (by kernel_rfl) (Xg.opx_pure ((Value.bool true)) rfl (fun _ => by kernel_rfl) ?_)
      refine Xg.ops_nil ?_
      refine Xg.at_true (t := true) (by kernel_rfl) rfl ?_
      refine Xg.at_region ?_
      refine Xg.ops_op (by kernel_rfl) (Xg.opx_pure ((iv 2)) rfl (fun _ => by kernel_rfl) ?_)
      refine Xg.ops_nil ?_
      rotate_left
      refine Xg.ops_op (by kernel_rfl) (Xg.opx_pure ((Value.bool false)) rfl (fun _ => by kernel_rfl) ?_)
      refine Xg.ops_op (by kernel_rfl) (Xg.opx_pure ((Value.bool false)) rfl (fun _ => by kernel_rfl) ?_)
      refine Xg.ops_op (by kernel_rfl) (Xg.opx_pure ((iv t)) rfl (fun _ => by kernel_rfl) ?_)
      refine Xg.ops_op (by kernel_rfl) (Xg.opx_pure (.bool (decide ((t : Int) = ((19 : Int))))) rfl (fun _ => by kernel_rfl) ?_)
      refine Xg.ops_flag (j := 39) (c := (decide (t = (19 : Int)))) (by kernel_rfl) (fun xh3 => ?_) (fun xh3 => ?_)
      replace xh3 : (t = (19 : Int)) := of_decide_eq_true xh3
      rotate_left
      replace xh3 : ¬ ((t = (19 : Int))) := of_decide_eq_false xh3
      rotate_right
      refine Xg.ops_op (by kernel_rfl) (Xg.opx_pure ((Value.bool true)) rfl (fun _ => by kernel_rfl) ?_)
      refine Xg.ops_op (by kernel_rfl) (Xg.opx_pure ((Value.bool true)) rfl (fun _ => by kernel_rfl) ?_)
      refine Xg.ops_skip (by kernel_rfl) ?_
      refine Xg.ops_skip (by kernel_rfl) ?_
      refine Xg.ops_op (by kernel_rfl) (Xg.opx_pure ((Value.bool true)) rfl (fun _ => by kernel_rfl) ?_)
      refine Xg.ops_nil ?_
      refine Xg.at_true (t := true) (by kernel_rfl) rfl ?_
      refine Xg.at_region ?_
      refine Xg.ops_op (by kernel_rfl) (Xg.opx_pure ((iv 2)) rfl (fun _ => by kernel_rfl) ?_)
      refine Xg.ops_nil ?_
      rotate_left
      refine Xg.ops_op (by kernel_rfl) (Xg.opx_pure ((Value.bool false)) rfl (fun _ => by kernel_rfl) ?_)
      refine Xg.ops_op (by kernel_rfl) (Xg.opx_pure ((Value.bool false)) rfl (fun _ => by kernel_rfl) ?_)
      refine Xg.ops_op (by kernel_rfl) (Xg.opx_pure ((iv t)) rfl (fun _ => by kernel_rfl) ?_)
      refine Xg.ops_op (by kernel_rfl) (Xg.opx_pure (.bool (decide ((t : Int) = ((27 : Int))))) rfl (fun _ => by kernel_rfl) ?_)
      refine Xg.ops_flag (j := 43) (c := (decide (t = (27 : Int)))) (by kernel_rfl) (fun xh4 => ?_) (fun xh4 => ?_)
      replace xh4 : (t = (27 : Int)) := of_decide_eq_true xh4
      rotate_left
      replace xh4 : ¬ ((t = (27 : Int))) := of_decide_eq_false xh4
      rotate_right
      refine Xg.ops_op (by kernel_rfl) (Xg.opx_pure ((Value.bool true)) rfl (fun _ => by kernel_rfl) ?_)
      refine Xg.ops_nil ?_
      refine Xg.at_true (t := true) (by kernel_rfl) rfl ?_
      refine Xg.at_region ?_
      refine Xg.ops_op (by kernel_rfl) (Xg.opx_pure ((iv 2)) rfl (fun _ => by kernel_rfl) ?_)
      refine Xg.ops_nil ?_
      rotate_left
      refine Xg.ops_op (by kernel_rfl) (Xg.opx_pure ((Value.bool false)) rfl (fun _ => by kernel_rfl) ?_)
      refine Xg.ops_nil ?_
      refine Xg.at_false (t := false) (by kernel_rfl) rfl ?_
      refine Xg.at_skip ?_)
    (focus
      refine Xg.at_keep [0, 1] (by kernel_rfl) ?_
      refine Xg.At.same (by kernel_rfl) ?_ (hk (((0 : Int)), fun j9 => ([iv w, iv at0, iv by0, tu, tu, tu, Value.bool false, iv t, iv 0, tu, tu, tu, tu, tu, tu, tu, tu, tu, tu, tu, tu, tu, tu, tu, tu, tu, Value.slice ta (10 : Nat) tc, iv w, iv (↑q9 : Int), Value.pointer (some (Addr.mk (blk ta) (offA ta + q9) none)), iv t, iv t, Value.bool (decide (t = (9 : Int))), Value.bool false, iv t, Value.bool false, Value.bool false, Value.bool false, iv t, Value.bool false, Value.bool false, Value.bool false, iv t, Value.bool false, Value.bool false, tu, tu, tu, tu, tu, tu, tu, tu, tu, tu, tu, tu, tu, tu, tu, tu, tu, tu, tu, tu, tu, tu, tu, tu, tu, tu, tu, tu, tu, tu, tu, tu, tu, tu, tu, tu, tu, tu, tu, tu, tu, tu, tu, tu, tu, tu, tu, tu, tu, tu, tu, tu, tu, tu, tu, tu, tu, tu, tu, tu, tu, tu, tu, tu, tu, tu, tu, tu, tu, tu, tu, tu, tu, tu, tu, tu, tu, tu, tu, tu, tu, tu, tu, tu, tu, tu, tu, tu, tu, tu, tu, tu, tu, tu, tu, tu, tu, tu, tu, tu, tu, tu, tu, tu, tu, tu, tu, tu, tu, tu, tu, tu, tu, tu, tu, tu, tu, tu, tu, tu, tu, tu, tu, tu, tu, tu, tu, tu, tu, tu, tu, tu, tu, tu, tu, tu, tu, tu, tu, tu, tu, tu, tu, tu, tu, tu, tu, tu, tu, tu, tu, tu, tu, tu, tu, tu, tu, tu, tu, tu, tu, tu, tu, tu, tu, tu, tu, tu, tu, tu, tu] : List Value).getD j9 undef) ?_))
    · rfl
    · show rr = (0 : Int); omega
    (focus
      refine Xg.at_keep [0, 1] (by kernel_rfl) ?_
      refine Xg.At.same (by kernel_rfl) ?_ (hk (((2 : Int)), fun j9 => ([iv w, iv at0, iv by0, tu, tu, tu, Value.bool false, iv t, iv 2, tu, tu, tu, tu, tu, tu, tu, tu, tu, tu, tu, tu, tu, tu, tu, tu, tu, Value.slice ta (10 : Nat) tc, iv w, iv (↑q9 : Int), Value.pointer (some (Addr.mk (blk ta) (offA ta + q9) none)), iv t, iv t, Value.bool (decide (t = (9 : Int))), Value.bool true, tu, tu, Value.bool true, Value.bool true, tu, tu, Value.bool true, Value.bool true, tu, tu, Value.bool true, tu, tu, tu, tu, tu, tu, tu, tu, tu, tu, tu, tu, tu, tu, tu, tu, tu, tu, tu, tu, tu, tu, tu, tu, tu, tu, tu, tu, tu, tu, tu, tu, tu, tu, tu, tu, tu, tu, tu, tu, tu, tu, tu, tu, tu, tu, tu, tu, tu, tu, tu, tu, tu, tu, tu, tu, tu, tu, tu, tu, tu, tu, tu, tu, tu, tu, tu, tu, tu, tu, tu, tu, tu, tu, tu, tu, tu, tu, tu, tu, tu, tu, tu, tu, tu, tu, tu, tu, tu, tu, tu, tu, tu, tu, tu, tu, tu, tu, tu, tu, tu, tu, tu, tu, tu, tu, tu, tu, tu, tu, tu, tu, tu, tu, tu, tu, tu, tu, tu, tu, tu, tu, tu, tu, tu, tu, tu, tu, tu, tu, tu, tu, tu, tu, tu, tu, tu, tu, tu, tu, tu, tu, tu, tu, tu, tu, tu, tu, tu, tu, tu, tu, tu, tu, tu, tu, tu, tu, tu, tu, tu, tu, tu, tu, tu, tu, tu, tu, tu, tu, tu] : List Value).getD j9 undef) ?_))
    · rfl
    · show rr = (2 : Int); omega
    (focus
      refine Xg.at_keep [0, 1] (by kernel_rfl) ?_
      refine Xg.At.same (by kernel_rfl) ?_ (hk (((2 : Int)), fun j9 => ([iv w, iv at0, iv by0, tu, tu, tu, Value.bool false, iv t, iv 2, tu, tu, tu, tu, tu, tu, tu, tu, tu, tu, tu, tu, tu, tu, tu, tu, tu, Value.slice ta (10 : Nat) tc, iv w, iv (↑q9 : Int), Value.pointer (some (Addr.mk (blk ta) (offA ta + q9) none)), iv t, iv t, Value.bool (decide (t = (9 : Int))), Value.bool false, iv t, Value.bool true, Value.bool true, Value.bool true, tu, tu, Value.bool true, Value.bool true, tu, tu, Value.bool true, tu, tu, tu, tu, tu, tu, tu, tu, tu, tu, tu, tu, tu, tu, tu, tu, tu, tu, tu, tu, tu, tu, tu, tu, tu, tu, tu, tu, tu, tu, tu, tu, tu, tu, tu, tu, tu, tu, tu, tu, tu, tu, tu, tu, tu, tu, tu, tu, tu, tu, tu, tu, tu, tu, tu, tu, tu, tu, tu, tu, tu, tu, tu, tu, tu, tu, tu, tu, tu, tu, tu, tu, tu, tu, tu, tu, tu, tu, tu, tu, tu, tu, tu, tu, tu, tu, tu, tu, tu, tu, tu, tu, tu, tu, tu, tu, tu, tu, tu, tu, tu, tu, tu, tu, tu, tu, tu, tu, tu, tu, tu, tu, tu, tu, tu, tu, tu, tu, tu, tu, tu, tu, tu, tu, tu, tu, tu, tu, tu, tu, tu, tu, tu, tu, tu, tu, tu, tu, tu, tu, tu, tu, tu, tu, tu, tu, tu, tu, tu, tu, tu, tu, tu, tu, tu, tu, tu, tu, tu, tu, tu, tu, tu, tu, tu, tu, tu, tu, tu, tu, tu] : List Value).getD j9 undef) ?_))
    · rfl
    · show rr = (2 : Int); omega
    (focus
      refine Xg.at_keep [0, 1] (by kernel_rfl) ?_
      refine Xg.At.same (by kernel_rfl) ?_ (hk (((2 : Int)), fun j9 => ([iv w, iv at0, iv by0, tu, tu, tu, Value.bool false, iv t, iv 2, tu, tu, tu, tu, tu, tu, tu, tu, tu, tu, tu, tu, tu, tu, tu, tu, tu, Value.slice ta (10 : Nat) tc, iv w, iv (↑q9 : Int), Value.pointer (some (Addr.mk (blk ta) (offA ta + q9) none)), iv t, iv t, Value.bool (decide (t = (9 : Int))), Value.bool false, iv t, Value.bool false, Value.bool false, Value.bool false, iv t, Value.bool true, Value.bool true, Value.bool true, tu, tu, Value.bool true, tu, tu, tu, tu, tu, tu, tu, tu, tu, tu, tu, tu, tu, tu, tu, tu, tu, tu, tu, tu, tu, tu, tu, tu, tu, tu, tu, tu, tu, tu, tu, tu, tu, tu, tu, tu, tu, tu, tu, tu, tu, tu, tu, tu, tu, tu, tu, tu, tu, tu, tu, tu, tu, tu, tu, tu, tu, tu, tu, tu, tu, tu, tu, tu, tu, tu, tu, tu, tu, tu, tu, tu, tu, tu, tu, tu, tu, tu, tu, tu, tu, tu, tu, tu, tu, tu, tu, tu, tu, tu, tu, tu, tu, tu, tu, tu, tu, tu, tu, tu, tu, tu, tu, tu, tu, tu, tu, tu, tu, tu, tu, tu, tu, tu, tu, tu, tu, tu, tu, tu, tu, tu, tu, tu, tu, tu, tu, tu, tu, tu, tu, tu, tu, tu, tu, tu, tu, tu, tu, tu, tu, tu, tu, tu, tu, tu, tu, tu, tu, tu, tu, tu, tu, tu, tu, tu, tu, tu, tu, tu, tu, tu, tu, tu, tu, tu, tu, tu, tu, tu, tu] : List Value).getD j9 undef) ?_))
    · rfl
    · show rr = (2 : Int); omega
    (focus
      refine Xg.at_keep [0, 1] (by kernel_rfl) ?_
      refine Xg.At.same (by kernel_rfl) ?_ (hk (((2 : Int)), fun j9 => ([iv w, iv at0, iv by0, tu, tu, tu, Value.bool false, iv t, iv 2, tu, tu, tu, tu, tu, tu, tu, tu, tu, tu, tu, tu, tu, tu, tu, tu, tu, Value.slice ta (10 : Nat) tc, iv w, iv (↑q9 : Int), Value.pointer (some (Addr.mk (blk ta) (offA ta + q9) none)), iv t, iv t, Value.bool (decide (t = (9 : Int))), Value.bool false, iv t, Value.bool false, Value.bool false, Value.bool false, iv t, Value.bool false, Value.bool false, Value.bool false, iv t, Value.bool true, Value.bool true, tu, tu, tu, tu, tu, tu, tu, tu, tu, tu, tu, tu, tu, tu, tu, tu, tu, tu, tu, tu, tu, tu, tu, tu, tu, tu, tu, tu, tu, tu, tu, tu, tu, tu, tu, tu, tu, tu, tu, tu, tu, tu, tu, tu, tu, tu, tu, tu, tu, tu, tu, tu, tu, tu, tu, tu, tu, tu, tu, tu, tu, tu, tu, tu, tu, tu, tu, tu, tu, tu, tu, tu, tu, tu, tu, tu, tu, tu, tu, tu, tu, tu, tu, tu, tu, tu, tu, tu, tu, tu, tu, tu, tu, tu, tu, tu, tu, tu, tu, tu, tu, tu, tu, tu, tu, tu, tu, tu, tu, tu, tu, tu, tu, tu, tu, tu, tu, tu, tu, tu, tu, tu, tu, tu, tu, tu, tu, tu, tu, tu, tu, tu, tu, tu, tu, tu, tu, tu, tu, tu, tu, tu, tu, tu, tu, tu, tu, tu, tu, tu, tu, tu, tu, tu, tu, tu, tu, tu, tu, tu, tu, tu, tu, tu, tu, tu, tu, tu, tu, tu, tu] : List Value).getD j9 undef) ?_))
    · rfl
    · show rr = (2 : Int); omega
  rintro ⟨c8, J9⟩ hc8
  dsimp only at hc8
  subst hc8
  (focus
    refine Xg.At.same (T' := [iv w, iv at0, iv by0, tu, tu, tu, Value.bool false, iv t, iv rr, tu, tu, tu, tu, tu, tu, tu, tu, tu, tu, tu, tu, tu, tu, tu, tu, tu, Value.slice ta (10 : Nat) tc, iv w, iv (↑q9 : Int), Value.pointer (some (Addr.mk (blk ta) (offA ta + q9) none)), iv t, J9 31, J9 32, J9 33, J9 34, J9 35, J9 36, J9 37, J9 38, J9 39, J9 40, J9 41, J9 42, J9 43, J9 44, tu, tu, tu, tu, tu, tu, tu, tu, tu, tu, tu, tu, tu, tu, tu, tu, tu, tu, tu, tu, tu, tu, tu, tu, tu, tu, tu, tu, tu, tu, tu, tu, tu, tu, tu, tu, tu, tu, tu, tu, tu, tu, tu, tu, tu, tu, tu, tu, tu, tu, tu, tu, tu, tu, tu, tu, tu, tu, tu, tu, tu, tu, tu, tu, tu, tu, tu, tu, tu, tu, tu, tu, tu, tu, tu, tu, tu, tu, tu, tu, tu, tu, tu, tu, tu, tu, tu, tu, tu, tu, tu, tu, tu, tu, tu, tu, tu, tu, tu, tu, tu, tu, tu, tu, tu, tu, tu, tu, tu, tu, tu, tu, tu, tu, tu, tu, tu, tu, tu, tu, tu, tu, tu, tu, tu, tu, tu, tu, tu, tu, tu, tu, tu, tu, tu, tu, tu, tu, tu, tu, tu, tu, tu, tu, tu, tu, tu, tu, tu, tu, tu, tu, tu, tu, tu, tu, tu, tu, tu, tu, tu, tu, tu, tu, tu, tu, tu, tu, tu, tu, tu]) (L' := [A, TyP te ta tc]) (by kernel_rfl) rfl ?_)
  (focus
    refine Xg.at_seq ?_
    refine Xg.at_region ?_
    refine Xg.ops_op (by kernel_rfl) (Xg.opx_pure ((iv t)) rfl (fun _ => by kernel_rfl) ?_)
    refine Xg.ops_op (by kernel_rfl) (Xg.opx_pure ((iv rr)) rfl (fun _ => by kernel_rfl) ?_)
    refine Xg.ops_op (by kernel_rfl) (Xg.opx_pure ((iv at0)) rfl (fun _ => by kernel_rfl) ?_)
    refine Xg.ops_op (by kernel_rfl) (Xg.opx_pure ((Value.agg #[iv t, iv 0, iv rr, iv at0, iv 0, Value.slice none (0 : Nat) (0 : Nat), Value.slice none (0 : Nat) (0 : Nat), Value.bool false])) rfl (fun _ => by kernel_rfl) ?_)
    refine Xg.ops_op (by kernel_rfl) (Xg.opx_callE' [0] (fun xx1 => [bts xx1.fst (32768 : Nat) (32768 : Nat) xx1.snd, A, TyP te ta tc]) (fun _ => by kernel_rfl) (@hr0 ) (by kernel_rfl) (by kernel_rfl) (by kernel_rfl) fun xx1 xh1 => ?_)
    try dsimp only at xh1
    refine Xg.ops_op (by kernel_rfl) (Xg.opx_pure ((Value.slice xx1.fst (32768 : Nat) (32768 : Nat))) rfl (fun _ => by kernel_rfl) ?_)
    refine Xg.ops_nil ?_
    refine Xg.at_seq ?_)
  obtain ⟨ra, R⟩ := xx1
  dsimp only at xh1 ⊢
  refine Xg.at_some 0 rfl (by decide) fun hs1 hs2 => ?_
  have hl := xh1.l
  have hck := chk_box (k := kd) xh1 ht (by decide) hrr hkd hkb (by decide) hcl
  obtain ⟨h, hh⟩ : ∃ h, hdX t 0 rr at0 kd = h := ⟨_, rfl⟩
  have hty : h.ty = t := by rw [← hh]; rfl
  have hmp : h.mp = (κ : Int) := by rw [← hh]; exact hkm
  have hbk2 : h.bk = 2 := by rw [← hh]; rfl
  have hrm : h.rm = (mn : Int) := by rw [← hh]; exact hmn
  have htt : h.tt.length = 2 := by rw [← hh]; rfl
  rw [hh] at hck
  have hc1 := check_d (bts ra 32768 32768 R) ra 32768 32768 R hl (Nat.le_refl _) (by decide) xh1.b Xg.reads_own
  rw [hck] at hc1
  unfold hdV at hc1
  dsimp only at hc1
  (focus
    refine Xg.at_cut (α := (Nat) × (Nat → Value)) (fun x9 => ((fun b => True) : (Nat) → Prop) x9.1) (fun x9 => Xg.headT [iv w, iv at0, iv by0, tu, tu, tu, Value.bool false, iv t, iv rr, Value.slice ra (32768 : Nat) (32768 : Nat), tu, tu, tu, tu, tu, tu, tu, tu, tu, tu, tu, tu, tu, tu, tu, tu, Value.slice ta (10 : Nat) tc, iv w, iv (↑q9 : Int), Value.pointer (some (Addr.mk (blk ta) (offA ta + q9) none)), iv t, J9 (31 : Nat), J9 (32 : Nat), J9 (33 : Nat), J9 (34 : Nat), J9 (35 : Nat), J9 (36 : Nat), J9 (37 : Nat), J9 (38 : Nat), J9 (39 : Nat), J9 (40 : Nat), J9 (41 : Nat), J9 (42 : Nat), J9 (43 : Nat), J9 (44 : Nat), iv t, iv rr, iv at0, Value.agg #[iv t, iv 0, iv rr, iv at0, iv 0, Value.slice none (0 : Nat) (0 : Nat), Value.slice none (0 : Nat) (0 : Nat), Value.bool false], Value.slice ra (32768 : Nat) (32768 : Nat), tu, tu, tu, tu, tu, tu, tu, tu, tu, tu, tu, tu, tu, tu, tu, tu, tu, tu, tu, tu, tu, tu, tu, tu, tu, tu, tu, tu, tu, tu, tu, tu, tu, tu, tu, tu, tu, tu, tu, tu, tu, tu, tu, tu, tu, tu, tu, tu, tu, tu, tu, tu, tu, tu, tu, tu, tu, tu, tu, tu, tu, tu, tu, tu, tu, tu, tu, tu, tu, tu, tu, tu, tu, tu, tu, tu, tu, tu, tu, tu, tu, tu, tu, tu, tu, tu, tu, tu, tu, tu, tu, tu, tu, tu, tu, tu, tu, tu, tu, tu, tu, tu, tu, tu, tu, tu, tu, tu, tu, tu, tu, tu, tu, tu, tu, tu, tu, tu, tu, tu, tu, tu, tu, tu, tu, tu, tu, tu, tu, tu, tu, tu, tu, tu, tu, tu, tu, tu, tu, tu, tu, tu, tu, tu, tu, tu, tu, tu, tu, tu, tu, tu, tu, tu, tu, tu, tu, tu, tu, tu, tu, tu, tu, tu, tu, tu] [50, 51, 52, 53, 54] (((fun b => [(10, .pointer (some ⟨b, 0, none⟩)), (11, .int .i64 0)]) : (Nat) → List (Nat × Go.Value)) x9.1) x9.2) (fun x9 => ((fun hb => [row hb 29 [.string (St h.tt), .int .i64 h.ty, .int .i64 h.mp, .int .i64 h.bk, .int .i64 h.rm, .bool h.bt], bts ra 32768 32768 R, A, TyP te ta tc]) : (Nat) → List Go.Sl.HP) x9.1) (fun kk hk => ?_) ?_)
  · (focus
      refine Xg.at_region ?_
      refine Xg.ops_op (by kernel_rfl) (Xg.opx_pure ((Value.slice ra (32768 : Nat) (32768 : Nat))) rfl (fun _ => by kernel_rfl) ?_)
      refine Xg.ops_op (by kernel_rfl) (Xg.opx_call1' [0] [bts ra (32768 : Nat) (32768 : Nat) R, A, TyP te ta tc] (fun _ => by kernel_rfl) (@hc1 ) (by kernel_rfl) (by kernel_rfl) (by kernel_rfl) ?_)
      refine Xg.ops_op (by kernel_rfl) (Xg.opx_pure ((Value.tuple #[Value.agg #[Value.string (St h.tt), iv h.ty, iv h.mp, iv h.bk, iv h.rm, Value.bool h.bt], iv 0])) rfl (fun _ => by kernel_rfl) ?_)
      refine Xg.ops_op (by kernel_rfl) (Xg.opx_pure ((Value.agg #[Value.string (St h.tt), iv h.ty, iv h.mp, iv h.bk, iv h.rm, Value.bool h.bt])) rfl (fun _ => by kernel_rfl) ?_)
      refine Xg.ops_op (by kernel_rfl) (Xg.opx_pure ((iv 0)) rfl (fun _ => by kernel_rfl) ?_)
      refine Xg.ops_op (by kernel_rfl) (Xg.opx_new 6 [Value.string (ByteArray.mk #[]), iv 0, iv 0, iv 0, iv 0, Value.bool false] (by kernel_rfl) (by kernel_rfl) fun xb1 => ?_)
      refine Xg.ops_op (by kernel_rfl) (Xg.opx_storen 6 (off := 0) 0 [Value.string (St h.tt), iv h.ty, iv h.mp, iv h.bk, iv h.rm, Value.bool h.bt] (by kernel_rfl) rfl (by kernel_rfl) (by kernel_rfl) rfl (by kernel_rfl) (Nat.le_of_ble_eq_true (by kernel_rfl)) ?_)
      refine Xg.ops_op (by kernel_rfl) (Xg.opx_pure ((iv 0)) rfl (fun _ => by kernel_rfl) ?_)
      refine Xg.ops_nil ?_)
    (focus
      refine Xg.at_keep [0, 1, 2, 3] (by kernel_rfl) ?_
      refine Xg.At.same (by kernel_rfl) ?_ (hk (((xb1)), fun j9 => ([iv w, iv at0, iv by0, tu, tu, tu, Value.bool false, iv t, iv rr, Value.slice ra (32768 : Nat) (32768 : Nat), pv xb1 0, iv 0, tu, tu, tu, tu, tu, tu, tu, tu, tu, tu, tu, tu, tu, tu, Value.slice ta (10 : Nat) tc, iv w, iv (↑q9 : Int), Value.pointer (some (Addr.mk (blk ta) (offA ta + q9) none)), iv t, J9 (31 : Nat), J9 (32 : Nat), J9 (33 : Nat), J9 (34 : Nat), J9 (35 : Nat), J9 (36 : Nat), J9 (37 : Nat), J9 (38 : Nat), J9 (39 : Nat), J9 (40 : Nat), J9 (41 : Nat), J9 (42 : Nat), J9 (43 : Nat), J9 (44 : Nat), iv t, iv rr, iv at0, Value.agg #[iv t, iv 0, iv rr, iv at0, iv 0, Value.slice none (0 : Nat) (0 : Nat), Value.slice none (0 : Nat) (0 : Nat), Value.bool false], Value.slice ra (32768 : Nat) (32768 : Nat), Value.tuple #[Value.agg #[Value.string (St h.tt), iv h.ty, iv h.mp, iv h.bk, iv h.rm, Value.bool h.bt], iv 0], Value.slice ra (32768 : Nat) (32768 : Nat), Value.tuple #[Value.agg #[Value.string (St h.tt), iv h.ty, iv h.mp, iv h.bk, iv h.rm, Value.bool h.bt], iv 0], Value.agg #[Value.string (St h.tt), iv h.ty, iv h.mp, iv h.bk, iv h.rm, Value.bool h.bt], iv 0, tu, tu, tu, tu, tu, tu, tu, tu, tu, tu, tu, tu, tu, tu, tu, tu, tu, tu, tu, tu, tu, tu, tu, tu, tu, tu, tu, tu, tu, tu, tu, tu, tu, tu, tu, tu, tu, tu, tu, tu, tu, tu, tu, tu, tu, tu, tu, tu, tu, tu, tu, tu, tu, tu, tu, tu, tu, tu, tu, tu, tu, tu, tu, tu, tu, tu, tu, tu, tu, tu, tu, tu, tu, tu, tu, tu, tu, tu, tu, tu, tu, tu, tu, tu, tu, tu, tu, tu, tu, tu, tu, tu, tu, tu, tu, tu, tu, tu, tu, tu, tu, tu, tu, tu, tu, tu, tu, tu, tu, tu, tu, tu, tu, tu, tu, tu, tu, tu, tu, tu, tu, tu, tu, tu, tu, tu, tu, tu, tu, tu, tu, tu, tu, tu, tu, tu, tu, tu, tu, tu, tu, tu, tu, tu, tu, tu, tu, tu, tu, tu, tu, tu, tu, tu, tu, tu, tu, tu, tu, tu, tu] : List Value).getD j9 undef) ?_))
    · rfl
    · trivial
  rintro ⟨hb, J0⟩ hk0
  clear hk0
  (focus
    refine Xg.At.same (T' := [iv w, iv at0, iv by0, tu, tu, tu, Value.bool false, iv t, iv rr, Value.slice ra (32768 : Nat) (32768 : Nat), pv hb 0, iv 0, tu, tu, tu, tu, tu, tu, tu, tu, tu, tu, tu, tu, tu, tu, Value.slice ta (10 : Nat) tc, iv w, iv (↑q9 : Int), Value.pointer (some (Addr.mk (blk ta) (offA ta + q9) none)), iv t, J9 (31 : Nat), J9 (32 : Nat), J9 (33 : Nat), J9 (34 : Nat), J9 (35 : Nat), J9 (36 : Nat), J9 (37 : Nat), J9 (38 : Nat), J9 (39 : Nat), J9 (40 : Nat), J9 (41 : Nat), J9 (42 : Nat), J9 (43 : Nat), J9 (44 : Nat), iv t, iv rr, iv at0, Value.agg #[iv t, iv 0, iv rr, iv at0, iv 0, Value.slice none (0 : Nat) (0 : Nat), Value.slice none (0 : Nat) (0 : Nat), Value.bool false], Value.slice ra (32768 : Nat) (32768 : Nat), J0 50, J0 51, J0 52, J0 53, J0 54, tu, tu, tu, tu, tu, tu, tu, tu, tu, tu, tu, tu, tu, tu, tu, tu, tu, tu, tu, tu, tu, tu, tu, tu, tu, tu, tu, tu, tu, tu, tu, tu, tu, tu, tu, tu, tu, tu, tu, tu, tu, tu, tu, tu, tu, tu, tu, tu, tu, tu, tu, tu, tu, tu, tu, tu, tu, tu, tu, tu, tu, tu, tu, tu, tu, tu, tu, tu, tu, tu, tu, tu, tu, tu, tu, tu, tu, tu, tu, tu, tu, tu, tu, tu, tu, tu, tu, tu, tu, tu, tu, tu, tu, tu, tu, tu, tu, tu, tu, tu, tu, tu, tu, tu, tu, tu, tu, tu, tu, tu, tu, tu, tu, tu, tu, tu, tu, tu, tu, tu, tu, tu, tu, tu, tu, tu, tu, tu, tu, tu, tu, tu, tu, tu, tu, tu, tu, tu, tu, tu, tu, tu, tu, tu, tu, tu, tu, tu, tu, tu, tu, tu, tu, tu, tu, tu, tu, tu, tu, tu, tu]) (L' := [row (hb, J0).fst (29 : TypeId) [Value.string (St h.tt), iv h.ty, iv h.mp, iv h.bk, iv h.rm, Value.bool h.bt], bts ra (32768 : Nat) (32768 : Nat) R, A, TyP te ta tc]) (by kernel_rfl) rfl ?_)
  (focus
    refine Xg.at_seq ?_
    refine Xg.at_seq ?_
    refine Xg.at_region ?_
    refine Xg.ops_op (by kernel_rfl) (Xg.opx_pure ((iv 0)) rfl (fun _ => by kernel_rfl) ?_)
    refine Xg.ops_op (by kernel_rfl) (Xg.opx_pure ((Value.bool false)) rfl (fun _ => by kernel_rfl) ?_)
    refine Xg.ops_op (by kernel_rfl) (Xg.opx_pure ((Value.bool false)) rfl (fun _ => by kernel_rfl) ?_)
    refine Xg.ops_op (by kernel_rfl) (Xg.opx_pure ((pv hb 1)) rfl (fun _ => by kernel_rfl) ?_)
    refine Xg.ops_op (by kernel_rfl) (Xg.opx_load (b := hb) (off := ((1 : Nat))) 0 (iv h.ty) rfl (by kernel_rfl) (by kernel_rfl) (by kernel_rfl) ?_)
    refine Xg.ops_op (by kernel_rfl) (Xg.opx_pure ((iv t)) rfl (fun _ => by kernel_rfl) ?_)
    refine Xg.ops_op (by kernel_rfl) (Xg.opx_pure (.bool (!decide ((h.ty : Int) = t))) rfl (fun _ => by kernel_rfl) ?_)
    refine Xg.ops_flag (j := 61) (c := (!decide (h.ty = t))) (by kernel_rfl) (fun xh2 => absurd xh2 (by rw [decide_eq_true (p := (h.ty = t)) (by omega)]; decide)) (fun _ => ?_)
    refine Xg.ops_op (by kernel_rfl) (Xg.opx_pure ((Value.bool false)) rfl (fun _ => by kernel_rfl) ?_)
    refine Xg.ops_op (by kernel_rfl) (Xg.opx_pure ((Value.bool false)) rfl (fun _ => by kernel_rfl) ?_)
    refine Xg.ops_op (by kernel_rfl) (Xg.opx_pure ((pv hb 3)) rfl (fun _ => by kernel_rfl) ?_)
    refine Xg.ops_op (by kernel_rfl) (Xg.opx_load (b := hb) (off := ((3 : Nat))) 0 (iv h.bk) rfl (by kernel_rfl) (by kernel_rfl) (by kernel_rfl) ?_)
    refine Xg.ops_op (by kernel_rfl) (Xg.opx_pure (.bool (!decide ((h.bk : Int) = ((2 : Int))))) rfl (fun _ => by kernel_rfl) ?_)
    refine Xg.ops_flag (j := 66) (c := (!decide (h.bk = (2 : Int)))) (by kernel_rfl) (fun xh2 => absurd xh2 (by rw [decide_eq_true (p := (h.bk = (2 : Int))) (by omega)]; decide)) (fun _ => ?_)
    refine Xg.ops_op (by kernel_rfl) (Xg.opx_pure ((Value.bool false)) rfl (fun _ => by kernel_rfl) ?_)
    refine Xg.ops_op (by kernel_rfl) (Xg.opx_pure ((Value.bool false)) rfl (fun _ => by kernel_rfl) ?_)
    refine Xg.ops_op (by kernel_rfl) (Xg.opx_pure ((pv hb 0)) rfl (fun _ => by kernel_rfl) ?_)
    refine Xg.ops_op (by kernel_rfl) (Xg.opx_load (b := hb) (off := ((0 : Nat))) 0 (Value.string (St h.tt)) rfl (by kernel_rfl) (by kernel_rfl) (by kernel_rfl) ?_)
    refine Xg.ops_op (by kernel_rfl) (Xg.opx_run (.int .i64 ((List.length h.tt : Nat) : Int)) rfl (Xg.run_str_len (xs := h.tt) (by kernel_rfl) (by kernel_rfl)) ?_)
    refine Xg.ops_op (by kernel_rfl) (Xg.opx_pure (.bool (!decide ((((↑h.tt.length : Int)) : Int) = ((2 : Int))))) rfl (fun _ => by kernel_rfl) ?_)
    refine Xg.ops_flag (j := 72) (c := (!decide ((↑h.tt.length : Int) = (2 : Int)))) (by kernel_rfl) (fun xh2 => absurd xh2 (by rw [decide_eq_true (p := ((↑h.tt.length : Int) = (2 : Int))) (by omega)]; decide)) (fun _ => ?_)
    refine Xg.ops_op (by kernel_rfl) (Xg.opx_pure ((Value.bool false)) rfl (fun _ => by kernel_rfl) ?_)
    refine Xg.ops_nil ?_
    refine Xg.at_false (t := false) (by kernel_rfl) rfl ?_
    refine Xg.at_skip ?_
    refine Xg.at_seq ?_
    refine Xg.at_region ?_
    refine Xg.ops_op (by kernel_rfl) (Xg.opx_pure ((iv at0)) rfl (fun _ => by kernel_rfl) ?_)
    refine Xg.ops_op (by kernel_rfl) (Xg.opx_call1' [] [row (hb, J0).fst (29 : TypeId) [Value.string (St h.tt), iv h.ty, iv h.mp, iv h.bk, iv h.rm, Value.bool h.bt], bts ra (32768 : Nat) (32768 : Nat) R, A, TyP te ta tc] (fun _ => by kernel_rfl) (@hp74 ) (by kernel_rfl) (by kernel_rfl) (by kernel_rfl) ?_)
    refine Xg.ops_op (by kernel_rfl) (Xg.opx_pure ((iv (↑q : Int))) rfl (fun _ => by kernel_rfl) ?_)
    refine Xg.ops_nil ?_
    refine Xg.at_seq ?_
    refine Xg.at_region ?_
    refine Xg.ops_op (by kernel_rfl) (Xg.opx_pure ((iv by0)) rfl (fun _ => by kernel_rfl) ?_)
    refine Xg.ops_op (by kernel_rfl) (Xg.opx_call1' [] [row (hb, J0).fst (29 : TypeId) [Value.string (St h.tt), iv h.ty, iv h.mp, iv h.bk, iv h.rm, Value.bool h.bt], bts ra (32768 : Nat) (32768 : Nat) R, A, TyP te ta tc] (fun _ => by kernel_rfl) (@hpb ) (by kernel_rfl) (by kernel_rfl) (by kernel_rfl) ?_)
    refine Xg.ops_op (by kernel_rfl) (Xg.opx_int .i64 (IntKind.wrap .i64 (((1 : Int) + pb))) rfl (fun _ => by kernel_rfl) (Xg.wrap_i64_in (by omega)) ?_)
    refine Xg.ops_op (by kernel_rfl) (Xg.opx_int .u8 (IntKind.wrap .u8 (((1 : Int) + pb))) rfl (fun _ => by kernel_rfl) (Xg.wrap_u8_in (by omega)) ?_)
    refine Xg.ops_op (by kernel_rfl) (Xg.opx_pure ((uv ((1 : Int) + pb))) rfl (fun _ => by kernel_rfl) ?_)
    refine Xg.ops_nil ?_
    refine Xg.at_seq ?_
    refine Xg.at_seq ?_
    refine Xg.at_region ?_
    refine Xg.ops_op (by kernel_rfl) (Xg.opx_pure ((iv (↑q : Int))) rfl (fun _ => by kernel_rfl) ?_)
    refine Xg.ops_op (by kernel_rfl) (Xg.opx_pure (.bool (decide ((((↑q : Int)) : Int) < ((48 : Int))))) rfl (fun _ => by kernel_rfl) ?_)
    refine Xg.ops_nil ?_)
  (focus
    refine Xg.at_cut (α := (Int) × (Nat → Value)) (fun x9 => ((fun x => x = 260 + (q : Int)) : (Int) → Prop) x9.1) (fun x9 => Xg.headT [iv w, iv at0, iv by0, tu, tu, tu, Value.bool false, iv t, iv rr, Value.slice ra (32768 : Nat) (32768 : Nat), pv hb 0, iv 0, iv (↑q : Int), uv ((1 : Int) + pb), tu, tu, tu, tu, tu, tu, tu, tu, tu, tu, tu, tu, Value.slice ta (10 : Nat) tc, iv w, iv (↑q9 : Int), Value.pointer (some (Addr.mk (blk ta) (offA ta + q9) none)), iv t, J9 (31 : Nat), J9 (32 : Nat), J9 (33 : Nat), J9 (34 : Nat), J9 (35 : Nat), J9 (36 : Nat), J9 (37 : Nat), J9 (38 : Nat), J9 (39 : Nat), J9 (40 : Nat), J9 (41 : Nat), J9 (42 : Nat), J9 (43 : Nat), J9 (44 : Nat), iv t, iv rr, iv at0, Value.agg #[iv t, iv 0, iv rr, iv at0, iv 0, Value.slice none (0 : Nat) (0 : Nat), Value.slice none (0 : Nat) (0 : Nat), Value.bool false], Value.slice ra (32768 : Nat) (32768 : Nat), J0 50, J0 51, J0 52, J0 53, J0 54, iv 0, Value.bool false, Value.bool false, pv hb 1, iv h.ty, iv t, Value.bool false, Value.bool false, Value.bool false, pv hb 3, iv h.bk, Value.bool false, Value.bool false, Value.bool false, pv hb 0, Value.string (St h.tt), iv (↑h.tt.length : Int), Value.bool false, Value.bool false, iv at0, iv (↑q : Int), iv by0, iv pb, iv ((1 : Int) + pb), uv ((1 : Int) + pb), iv (↑q : Int), Value.bool (decide ((↑q : Int) < (48 : Int))), tu, tu, tu, tu, tu, tu, tu, tu, tu, tu, tu, tu, tu, tu, tu, tu, tu, tu, tu, tu, tu, tu, tu, tu, tu, tu, tu, tu, tu, tu, tu, tu, tu, tu, tu, tu, tu, tu, tu, tu, tu, tu, tu, tu, tu, tu, tu, tu, tu, tu, tu, tu, tu, tu, tu, tu, tu, tu, tu, tu, tu, tu, tu, tu, tu, tu, tu, tu, tu, tu, tu, tu, tu, tu, tu, tu, tu, tu, tu, tu, tu, tu, tu, tu, tu, tu, tu, tu, tu, tu, tu, tu, tu, tu, tu, tu, tu, tu, tu, tu, tu, tu, tu, tu, tu, tu, tu, tu, tu, tu, tu, tu, tu, tu, tu, tu, tu, tu, tu, tu, tu, tu, tu, tu, tu, tu, tu, tu, tu, tu, tu, tu, tu, tu] [82, 83, 84, 85, 86] (((fun x => [(12, .int .i64 x)]) : (Int) → List (Nat × Go.Value)) x9.1) x9.2) (fun x9 => ((fun x => [row hb 29 [.string (St h.tt), .int .i64 h.ty, .int .i64 h.mp, .int .i64 h.bk, .int .i64 h.rm, .bool h.bt], bts ra 32768 32768 R, A, TyP te ta tc]) : (Int) → List Go.Sl.HP) x9.1) (fun kk hk => ?_) ?_)
  · by_cases hq48 : q < 48
    · (focus
        refine Xg.at_true (t := decide (((↑q : Int) < (48 : Int)))) (by kernel_rfl) (decide_eq_true (by omega)) ?_
        refine Xg.at_region ?_
        refine Xg.ops_op (by kernel_rfl) (Xg.opx_pure ((iv (↑q : Int))) rfl (fun _ => by kernel_rfl) ?_)
        refine Xg.ops_op (by kernel_rfl) (Xg.opx_int .i64 (IntKind.wrap .i64 (((260 : Int) + (↑q : Int)))) rfl (fun _ => by kernel_rfl) (Xg.wrap_i64_in (by omega)) ?_)
        refine Xg.ops_op (by kernel_rfl) (Xg.opx_pure ((iv ((260 : Int) + (↑q : Int)))) rfl (fun _ => by kernel_rfl) ?_)
        refine Xg.ops_nil ?_)
      (focus
        refine Xg.at_keep [0, 1, 2, 3] (by kernel_rfl) ?_
        refine Xg.At.same (by kernel_rfl) ?_ (hk ((((260 : Int) + (q : Int))), fun j9 => ([iv w, iv at0, iv by0, tu, tu, tu, Value.bool false, iv t, iv rr, Value.slice ra (32768 : Nat) (32768 : Nat), pv hb 0, iv 0, iv ((260 : Int) + (↑q : Int)), uv ((1 : Int) + pb), tu, tu, tu, tu, tu, tu, tu, tu, tu, tu, tu, tu, Value.slice ta (10 : Nat) tc, iv w, iv (↑q9 : Int), Value.pointer (some (Addr.mk (blk ta) (offA ta + q9) none)), iv t, J9 (31 : Nat), J9 (32 : Nat), J9 (33 : Nat), J9 (34 : Nat), J9 (35 : Nat), J9 (36 : Nat), J9 (37 : Nat), J9 (38 : Nat), J9 (39 : Nat), J9 (40 : Nat), J9 (41 : Nat), J9 (42 : Nat), J9 (43 : Nat), J9 (44 : Nat), iv t, iv rr, iv at0, Value.agg #[iv t, iv 0, iv rr, iv at0, iv 0, Value.slice none (0 : Nat) (0 : Nat), Value.slice none (0 : Nat) (0 : Nat), Value.bool false], Value.slice ra (32768 : Nat) (32768 : Nat), J0 50, J0 51, J0 52, J0 53, J0 54, iv 0, Value.bool false, Value.bool false, pv hb 1, iv h.ty, iv t, Value.bool false, Value.bool false, Value.bool false, pv hb 3, iv h.bk, Value.bool false, Value.bool false, Value.bool false, pv hb 0, Value.string (St h.tt), iv (↑h.tt.length : Int), Value.bool false, Value.bool false, iv at0, iv (↑q : Int), iv by0, iv pb, iv ((1 : Int) + pb), uv ((1 : Int) + pb), iv (↑q : Int), Value.bool (decide ((↑q : Int) < (48 : Int))), iv (↑q : Int), iv ((260 : Int) + (↑q : Int)), tu, tu, tu, tu, tu, tu, tu, tu, tu, tu, tu, tu, tu, tu, tu, tu, tu, tu, tu, tu, tu, tu, tu, tu, tu, tu, tu, tu, tu, tu, tu, tu, tu, tu, tu, tu, tu, tu, tu, tu, tu, tu, tu, tu, tu, tu, tu, tu, tu, tu, tu, tu, tu, tu, tu, tu, tu, tu, tu, tu, tu, tu, tu, tu, tu, tu, tu, tu, tu, tu, tu, tu, tu, tu, tu, tu, tu, tu, tu, tu, tu, tu, tu, tu, tu, tu, tu, tu, tu, tu, tu, tu, tu, tu, tu, tu, tu, tu, tu, tu, tu, tu, tu, tu, tu, tu, tu, tu, tu, tu, tu, tu, tu, tu, tu, tu, tu, tu, tu, tu, tu, tu, tu, tu, tu, tu, tu, tu, tu, tu, tu, tu] : List Value).getD j9 undef) ?_))
      · rfl
      · rfl
    · (focus
        refine Xg.at_false (t := decide (((↑q : Int) < (48 : Int)))) (by kernel_rfl) (decide_eq_false (by omega)) ?_
        refine Xg.at_region ?_
        refine Xg.ops_op (by kernel_rfl) (Xg.opx_pure ((iv (↑q : Int))) rfl (fun _ => by kernel_rfl) ?_)
        refine Xg.ops_op (by kernel_rfl) (Xg.opx_int .i64 (IntKind.wrap .i64 (((308 : Int) + (↑q : Int)))) rfl (fun _ => by kernel_rfl) (Xg.wrap_i64_in (by omega)) ?_)
        refine Xg.ops_op (by kernel_rfl) (Xg.opx_int .i64 (IntKind.wrap .i64 (((308 : Int) + (↑q : Int) - (48 : Int)))) rfl (fun _ => by kernel_rfl) (Xg.wrap_i64_in (by omega)) ?_)
        refine Xg.ops_op (by kernel_rfl) (Xg.opx_pure ((iv ((308 : Int) + (↑q : Int) - (48 : Int)))) rfl (fun _ => by kernel_rfl) ?_)
        refine Xg.ops_nil ?_)
      (focus
        refine Xg.at_keep [0, 1, 2, 3] (by kernel_rfl) ?_
        refine Xg.At.same (by kernel_rfl) ?_ (hk ((((308 : Int) + (q : Int) - 48)), fun j9 => ([iv w, iv at0, iv by0, tu, tu, tu, Value.bool false, iv t, iv rr, Value.slice ra (32768 : Nat) (32768 : Nat), pv hb 0, iv 0, iv ((308 : Int) + (↑q : Int) - (48 : Int)), uv ((1 : Int) + pb), tu, tu, tu, tu, tu, tu, tu, tu, tu, tu, tu, tu, Value.slice ta (10 : Nat) tc, iv w, iv (↑q9 : Int), Value.pointer (some (Addr.mk (blk ta) (offA ta + q9) none)), iv t, J9 (31 : Nat), J9 (32 : Nat), J9 (33 : Nat), J9 (34 : Nat), J9 (35 : Nat), J9 (36 : Nat), J9 (37 : Nat), J9 (38 : Nat), J9 (39 : Nat), J9 (40 : Nat), J9 (41 : Nat), J9 (42 : Nat), J9 (43 : Nat), J9 (44 : Nat), iv t, iv rr, iv at0, Value.agg #[iv t, iv 0, iv rr, iv at0, iv 0, Value.slice none (0 : Nat) (0 : Nat), Value.slice none (0 : Nat) (0 : Nat), Value.bool false], Value.slice ra (32768 : Nat) (32768 : Nat), J0 50, J0 51, J0 52, J0 53, J0 54, iv 0, Value.bool false, Value.bool false, pv hb 1, iv h.ty, iv t, Value.bool false, Value.bool false, Value.bool false, pv hb 3, iv h.bk, Value.bool false, Value.bool false, Value.bool false, pv hb 0, Value.string (St h.tt), iv (↑h.tt.length : Int), Value.bool false, Value.bool false, iv at0, iv (↑q : Int), iv by0, iv pb, iv ((1 : Int) + pb), uv ((1 : Int) + pb), iv (↑q : Int), Value.bool (decide ((↑q : Int) < (48 : Int))), tu, tu, iv (↑q : Int), iv ((308 : Int) + (↑q : Int)), iv ((308 : Int) + (↑q : Int) - (48 : Int)), tu, tu, tu, tu, tu, tu, tu, tu, tu, tu, tu, tu, tu, tu, tu, tu, tu, tu, tu, tu, tu, tu, tu, tu, tu, tu, tu, tu, tu, tu, tu, tu, tu, tu, tu, tu, tu, tu, tu, tu, tu, tu, tu, tu, tu, tu, tu, tu, tu, tu, tu, tu, tu, tu, tu, tu, tu, tu, tu, tu, tu, tu, tu, tu, tu, tu, tu, tu, tu, tu, tu, tu, tu, tu, tu, tu, tu, tu, tu, tu, tu, tu, tu, tu, tu, tu, tu, tu, tu, tu, tu, tu, tu, tu, tu, tu, tu, tu, tu, tu, tu, tu, tu, tu, tu, tu, tu, tu, tu, tu, tu, tu, tu, tu, tu, tu, tu, tu, tu, tu, tu, tu, tu, tu, tu, tu, tu, tu, tu] : List Value).getD j9 undef) ?_))
      · rfl
      · show (308 : Int) + (q : Int) - 48 = 260 + (q : Int); omega
  rintro ⟨x0, J1⟩ hx0
  dsimp only at hx0
  subst hx0
  (focus
    refine Xg.At.same (T' := [iv w, iv at0, iv by0, tu, tu, tu, Value.bool false, iv t, iv rr, Value.slice ra (32768 : Nat) (32768 : Nat), pv hb 0, iv 0, iv ((260 : Int) + (↑q : Int)), uv ((1 : Int) + pb), tu, tu, tu, tu, tu, tu, tu, tu, tu, tu, tu, tu, Value.slice ta (10 : Nat) tc, iv w, iv (↑q9 : Int), Value.pointer (some (Addr.mk (blk ta) (offA ta + q9) none)), iv t, J9 (31 : Nat), J9 (32 : Nat), J9 (33 : Nat), J9 (34 : Nat), J9 (35 : Nat), J9 (36 : Nat), J9 (37 : Nat), J9 (38 : Nat), J9 (39 : Nat), J9 (40 : Nat), J9 (41 : Nat), J9 (42 : Nat), J9 (43 : Nat), J9 (44 : Nat), iv t, iv rr, iv at0, Value.agg #[iv t, iv 0, iv rr, iv at0, iv 0, Value.slice none (0 : Nat) (0 : Nat), Value.slice none (0 : Nat) (0 : Nat), Value.bool false], Value.slice ra (32768 : Nat) (32768 : Nat), J0 50, J0 51, J0 52, J0 53, J0 54, iv 0, Value.bool false, Value.bool false, pv hb 1, iv h.ty, iv t, Value.bool false, Value.bool false, Value.bool false, pv hb 3, iv h.bk, Value.bool false, Value.bool false, Value.bool false, pv hb 0, Value.string (St h.tt), iv (↑h.tt.length : Int), Value.bool false, Value.bool false, iv at0, iv (↑q : Int), iv by0, iv pb, iv ((1 : Int) + pb), uv ((1 : Int) + pb), iv (↑q : Int), Value.bool (decide ((↑q : Int) < (48 : Int))), J1 82, J1 83, J1 84, J1 85, J1 86, tu, tu, tu, tu, tu, tu, tu, tu, tu, tu, tu, tu, tu, tu, tu, tu, tu, tu, tu, tu, tu, tu, tu, tu, tu, tu, tu, tu, tu, tu, tu, tu, tu, tu, tu, tu, tu, tu, tu, tu, tu, tu, tu, tu, tu, tu, tu, tu, tu, tu, tu, tu, tu, tu, tu, tu, tu, tu, tu, tu, tu, tu, tu, tu, tu, tu, tu, tu, tu, tu, tu, tu, tu, tu, tu, tu, tu, tu, tu, tu, tu, tu, tu, tu, tu, tu, tu, tu, tu, tu, tu, tu, tu, tu, tu, tu, tu, tu, tu, tu, tu, tu, tu, tu, tu, tu, tu, tu, tu, tu, tu, tu, tu, tu, tu, tu, tu, tu, tu, tu, tu, tu, tu, tu, tu, tu, tu, tu, tu]) (L' := [row hb (29 : TypeId) [Value.string (St h.tt), iv h.ty, iv h.mp, iv h.bk, iv h.rm, Value.bool h.bt], bts ra (32768 : Nat) (32768 : Nat) R, A, TyP te ta tc]) (by kernel_rfl) rfl ?_)
  (focus
    refine Xg.at_seq ?_
    refine Xg.at_region ?_
    refine Xg.ops_op (by kernel_rfl) (Xg.opx_pure ((Value.slice ra (32768 : Nat) (32768 : Nat))) rfl (fun _ => by kernel_rfl) ?_)
    refine Xg.ops_op (by kernel_rfl) (Xg.opx_pure ((iv ((260 : Int) + (↑q : Int)))) rfl (fun _ => by kernel_rfl) ?_)
    refine Xg.ops_op (by kernel_rfl) (Xg.opx_pure ((Value.slice ra (32768 : Nat) (32768 : Nat))) rfl (fun _ => by kernel_rfl) ?_)
    refine Xg.ops_op (by kernel_rfl) (Xg.opx_pure ((iv ((260 : Int) + (↑q : Int)))) rfl (fun _ => by kernel_rfl) ?_)
    refine Xg.ops_op (by kernel_rfl) (Xg.opx_ix_own (elem := 5) (kd := .i64) (e := ((260 : Int) + (↑q : Int))) 1 1 (((260 : Int) + (↑q : Int)).toNat) (((260 : Int) + (↑q : Int)).toNat) rfl (by kernel_rfl) (by kernel_rfl) (by kernel_rfl) (by kernel_rfl) (by omega) (by omega) (by omega) ?_)
    refine Xg.ops_op (by kernel_rfl) (Xg.opx_load_own (a := ra) (off := (((260 : Int) + (↑q : Int)).toNat)) 1 (uv (R.getD ((260 : Int) + (↑q : Int)).toNat (0 : Int))) rfl (by kernel_rfl) (Xg.get_ints (by omega)) (by kernel_rfl) ?_)
    refine Xg.ops_op (by kernel_rfl) (Xg.opx_pure ((uv ((1 : Int) + pb))) rfl (fun _ => by kernel_rfl) ?_)
    refine Xg.ops_op (by kernel_rfl) (Xg.opx_pure (.int .u8 (Xg.bxor .u8 ((R.getD ((260 : Int) + (↑q : Int)).toNat (0 : Int))) (((1 : Int) + pb)))) rfl (fun _ => by kernel_rfl) ?_)
    refine Xg.ops_op (by kernel_rfl) (Xg.opx_ix_own (elem := 5) (kd := .i64) (e := ((260 : Int) + (↑q : Int))) 1 1 (((260 : Int) + (↑q : Int)).toNat) (((260 : Int) + (↑q : Int)).toNat) rfl (by kernel_rfl) (by kernel_rfl) (by kernel_rfl) (by kernel_rfl) (by omega) (by omega) (by omega) ?_)
    refine Xg.ops_op (by kernel_rfl) (Xg.opx_store_own_i (a := ra) (off := (((260 : Int) + (↑q : Int)).toNat)) (kd := .u8) (xs := R) (e := (bxor IntKind.u8 (R.getD ((260 : Int) + (↑q : Int)).toNat (0 : Int)) ((1 : Int) + pb))) 1 (by kernel_rfl) rfl (by kernel_rfl) (by kernel_rfl) (by first | omega | (simp only [List.length_set]; omega)) ?_)
    refine Xg.ops_nil ?_
    refine Xg.at_seq ?_)
  rw [show ((260 : Int) + (q : Int)).toNat = 260 + q by omega]
  have hb9 := isB_get xh1.b (i := 260 + q) (by omega)
  obtain ⟨x1, x2, x3, x4⟩ := bxor_ok hb9 (v := 1 + pb) ⟨by omega, by omega⟩
  have htn := chk_turn xh1 (by decide) q (by omega) (1 + pb) ⟨by omega, by omega⟩
  obtain ⟨R1, hR1⟩ : ∃ R1, R.set (260 + q) (Xg.bxor .u8 (R.getD (260 + q) 0) (1 + pb)) = R1 := ⟨_, rfl⟩
  have hl1 : R1.length = 32768 := by rw [← hR1, List.length_set]; exact hl
  have hB1 : isB R1 := by rw [← hR1]; exact isB_set _ xh1.b ⟨x2, x3⟩
  have hback : R1.set (260 + q) (Xg.bxor .u8 (R1.getD (260 + q) 0) (1 + pb)) = R := by
    rw [← hR1, getD_set _ _ _ _ (by omega), if_pos rfl, x4, List.set_set]
    exact set_same R (260 + q) (by omega)
  rw [hR1] at htn ⊢
  obtain ⟨er, her⟩ : ∃ er : Int, (if q < 48 then (42 : Int) else 43) = er := ⟨_, rfl⟩
  have herq : q < 48 ∧ er = 42 ∨ 48 ≤ q ∧ er = 43 := by
    by_cases h4 : q < 48
    · rw [if_pos h4] at her; omega
    · rw [if_neg h4] at her; omega
  rw [her] at htn
  have hc2 := check_d (bts ra 32768 32768 R1) ra 32768 32768 R1 hl1 (Nat.le_refl _) (by decide) hB1 Xg.reads_own
  have hn2 := new_err (bts ra 32768 32768 R1) ra 32768 32768 R1 (.slice none 0 0) hl1 (Nat.le_refl _) (by decide) hB1 Xg.reads_own (by rw [htn]; show er ≠ 0; omega)
  rw [htn] at hc2 hn2
  unfold hdV hd0 at hc2
  dsimp only at hc2 hn2
  have hsh := sameHead_no h htt
  (focus
    refine Xg.at_cut (α := (Nat) × (Nat → Value)) (fun x9 => ((fun b => True) : (Nat) → Prop) x9.1) (fun x9 => Xg.headT [iv w, iv at0, iv by0, tu, tu, tu, Value.bool false, iv t, iv rr, Value.slice ra (32768 : Nat) (32768 : Nat), pv hb 0, iv 0, iv ((260 : Int) + (↑q : Int)), uv ((1 : Int) + pb), tu, tu, tu, tu, tu, tu, tu, tu, tu, tu, tu, tu, Value.slice ta (10 : Nat) tc, iv w, iv (↑q9 : Int), Value.pointer (some (Addr.mk (blk ta) (offA ta + q9) none)), iv t, J9 (31 : Nat), J9 (32 : Nat), J9 (33 : Nat), J9 (34 : Nat), J9 (35 : Nat), J9 (36 : Nat), J9 (37 : Nat), J9 (38 : Nat), J9 (39 : Nat), J9 (40 : Nat), J9 (41 : Nat), J9 (42 : Nat), J9 (43 : Nat), J9 (44 : Nat), iv t, iv rr, iv at0, Value.agg #[iv t, iv 0, iv rr, iv at0, iv 0, Value.slice none (0 : Nat) (0 : Nat), Value.slice none (0 : Nat) (0 : Nat), Value.bool false], Value.slice ra (32768 : Nat) (32768 : Nat), J0 50, J0 51, J0 52, J0 53, J0 54, iv 0, Value.bool false, Value.bool false, pv hb 1, iv h.ty, iv t, Value.bool false, Value.bool false, Value.bool false, pv hb 3, iv h.bk, Value.bool false, Value.bool false, Value.bool false, pv hb 0, Value.string (St h.tt), iv (↑h.tt.length : Int), Value.bool false, Value.bool false, iv at0, iv (↑q : Int), iv by0, iv pb, iv ((1 : Int) + pb), uv ((1 : Int) + pb), iv (↑q : Int), Value.bool (decide ((↑q : Int) < (48 : Int))), J1 82, J1 83, J1 84, J1 85, J1 86, Value.slice ra (32768 : Nat) (32768 : Nat), iv ((260 : Int) + (↑q : Int)), Value.slice ra (32768 : Nat) (32768 : Nat), iv ((260 : Int) + (↑q : Int)), Value.pointer (some (Addr.mk (blk ra) ((260 : Nat) + q) none)), uv (R.getD ((260 : Nat) + q) (0 : Int)), uv ((1 : Int) + pb), uv (bxor IntKind.u8 (R.getD ((260 : Nat) + q) (0 : Int)) ((1 : Int) + pb)), Value.pointer (some (Addr.mk (blk ra) ((260 : Nat) + q) none)), tu, tu, tu, tu, tu, tu, tu, tu, tu, tu, tu, tu, tu, tu, tu, tu, tu, tu, tu, tu, tu, tu, tu, tu, tu, tu, tu, tu, tu, tu, tu, tu, tu, tu, tu, tu, tu, tu, tu, tu, tu, tu, tu, tu, tu, tu, tu, tu, tu, tu, tu, tu, tu, tu, tu, tu, tu, tu, tu, tu, tu, tu, tu, tu, tu, tu, tu, tu, tu, tu, tu, tu, tu, tu, tu, tu, tu, tu, tu, tu, tu, tu, tu, tu, tu, tu, tu, tu, tu, tu, tu, tu, tu, tu, tu, tu, tu, tu, tu, tu, tu, tu, tu, tu, tu, tu, tu, tu, tu, tu, tu, tu, tu, tu, tu, tu, tu, tu, tu, tu] [96, 97, 98, 99, 100] (((fun b => [(14, .pointer (some ⟨b, 0, none⟩)), (15, .int .i64 er)]) : (Nat) → List (Nat × Go.Value)) x9.1) x9.2) (fun x9 => ((fun b => [row b 29 [.string (St []), .int .i64 0, .int .i64 0, .int .i64 0, .int .i64 0, .bool false], row hb 29 [.string (St h.tt), .int .i64 h.ty, .int .i64 h.mp, .int .i64 h.bk, .int .i64 h.rm, .bool h.bt], bts ra 32768 32768 R1, A, TyP te ta tc]) : (Nat) → List Go.Sl.HP) x9.1) (fun kk hk => ?_) ?_)
  · (focus
      refine Xg.at_region ?_
      refine Xg.ops_op (by kernel_rfl) (Xg.opx_pure ((Value.slice ra (32768 : Nat) (32768 : Nat))) rfl (fun _ => by kernel_rfl) ?_)
      refine Xg.ops_op (by kernel_rfl) (Xg.opx_call1' [1] [bts ra (32768 : Nat) (32768 : Nat) R1, row hb (29 : TypeId) [Value.string (St h.tt), iv h.ty, iv h.mp, iv h.bk, iv h.rm, Value.bool h.bt], A, TyP te ta tc] (fun _ => by kernel_rfl) (@hc2 ) (by kernel_rfl) (by kernel_rfl) (by kernel_rfl) ?_)
      refine Xg.ops_op (by kernel_rfl) (Xg.opx_pure ((Value.tuple #[Value.agg #[Value.string (St []), iv 0, iv 0, iv 0, iv 0, Value.bool false], iv er])) rfl (fun _ => by kernel_rfl) ?_)
      refine Xg.ops_op (by kernel_rfl) (Xg.opx_pure ((Value.agg #[Value.string (St []), iv 0, iv 0, iv 0, iv 0, Value.bool false])) rfl (fun _ => by kernel_rfl) ?_)
      refine Xg.ops_op (by kernel_rfl) (Xg.opx_pure ((iv er)) rfl (fun _ => by kernel_rfl) ?_)
      refine Xg.ops_op (by kernel_rfl) (Xg.opx_new 6 [Value.string (ByteArray.mk #[]), iv 0, iv 0, iv 0, iv 0, Value.bool false] (by kernel_rfl) (by kernel_rfl) fun xb1 => ?_)
      refine Xg.ops_op (by kernel_rfl) (Xg.opx_storen 6 (off := 0) 0 [Value.string (St []), iv 0, iv 0, iv 0, iv 0, Value.bool false] (by kernel_rfl) rfl (by kernel_rfl) (by kernel_rfl) rfl (by kernel_rfl) (Nat.le_of_ble_eq_true (by kernel_rfl)) ?_)
      refine Xg.ops_op (by kernel_rfl) (Xg.opx_pure ((iv er)) rfl (fun _ => by kernel_rfl) ?_)
      refine Xg.ops_nil ?_)
    (focus
      refine Xg.at_keep [0, 2, 1, 3, 4] (by kernel_rfl) ?_
      refine Xg.At.same (by kernel_rfl) ?_ (hk (((xb1)), fun j9 => ([iv w, iv at0, iv by0, tu, tu, tu, Value.bool false, iv t, iv rr, Value.slice ra (32768 : Nat) (32768 : Nat), pv hb 0, iv 0, iv ((260 : Int) + (↑q : Int)), uv ((1 : Int) + pb), pv xb1 0, iv er, tu, tu, tu, tu, tu, tu, tu, tu, tu, tu, Value.slice ta (10 : Nat) tc, iv w, iv (↑q9 : Int), Value.pointer (some (Addr.mk (blk ta) (offA ta + q9) none)), iv t, J9 (31 : Nat), J9 (32 : Nat), J9 (33 : Nat), J9 (34 : Nat), J9 (35 : Nat), J9 (36 : Nat), J9 (37 : Nat), J9 (38 : Nat), J9 (39 : Nat), J9 (40 : Nat), J9 (41 : Nat), J9 (42 : Nat), J9 (43 : Nat), J9 (44 : Nat), iv t, iv rr, iv at0, Value.agg #[iv t, iv 0, iv rr, iv at0, iv 0, Value.slice none (0 : Nat) (0 : Nat), Value.slice none (0 : Nat) (0 : Nat), Value.bool false], Value.slice ra (32768 : Nat) (32768 : Nat), J0 50, J0 51, J0 52, J0 53, J0 54, iv 0, Value.bool false, Value.bool false, pv hb 1, iv h.ty, iv t, Value.bool false, Value.bool false, Value.bool false, pv hb 3, iv h.bk, Value.bool false, Value.bool false, Value.bool false, pv hb 0, Value.string (St h.tt), iv (↑h.tt.length : Int), Value.bool false, Value.bool false, iv at0, iv (↑q : Int), iv by0, iv pb, iv ((1 : Int) + pb), uv ((1 : Int) + pb), iv (↑q : Int), Value.bool (decide ((↑q : Int) < (48 : Int))), J1 82, J1 83, J1 84, J1 85, J1 86, Value.slice ra (32768 : Nat) (32768 : Nat), iv ((260 : Int) + (↑q : Int)), Value.slice ra (32768 : Nat) (32768 : Nat), iv ((260 : Int) + (↑q : Int)), Value.pointer (some (Addr.mk (blk ra) ((260 : Nat) + q) none)), uv (R.getD ((260 : Nat) + q) (0 : Int)), uv ((1 : Int) + pb), uv (bxor IntKind.u8 (R.getD ((260 : Nat) + q) (0 : Int)) ((1 : Int) + pb)), Value.pointer (some (Addr.mk (blk ra) ((260 : Nat) + q) none)), Value.tuple #[Value.agg #[Value.string (St []), iv 0, iv 0, iv 0, iv 0, Value.bool false], iv er], Value.slice ra (32768 : Nat) (32768 : Nat), Value.tuple #[Value.agg #[Value.string (St []), iv 0, iv 0, iv 0, iv 0, Value.bool false], iv er], Value.agg #[Value.string (St []), iv 0, iv 0, iv 0, iv 0, Value.bool false], iv er, tu, tu, tu, tu, tu, tu, tu, tu, tu, tu, tu, tu, tu, tu, tu, tu, tu, tu, tu, tu, tu, tu, tu, tu, tu, tu, tu, tu, tu, tu, tu, tu, tu, tu, tu, tu, tu, tu, tu, tu, tu, tu, tu, tu, tu, tu, tu, tu, tu, tu, tu, tu, tu, tu, tu, tu, tu, tu, tu, tu, tu, tu, tu, tu, tu, tu, tu, tu, tu, tu, tu, tu, tu, tu, tu, tu, tu, tu, tu, tu, tu, tu, tu, tu, tu, tu, tu, tu, tu, tu, tu, tu, tu, tu, tu, tu, tu, tu, tu, tu, tu, tu, tu, tu, tu, tu, tu, tu, tu, tu, tu, tu, tu, tu, tu] : List Value).getD j9 undef) ?_))
    · rfl
    · trivial
  rintro ⟨b2, J2⟩ hk0
  clear hk0
  (focus
    refine Xg.At.same (T' := [iv w, iv at0, iv by0, tu, tu, tu, Value.bool false, iv t, iv rr, Value.slice ra (32768 : Nat) (32768 : Nat), pv hb 0, iv 0, iv ((260 : Int) + (↑q : Int)), uv ((1 : Int) + pb), pv b2 0, iv er, tu, tu, tu, tu, tu, tu, tu, tu, tu, tu, Value.slice ta (10 : Nat) tc, iv w, iv (↑q9 : Int), Value.pointer (some (Addr.mk (blk ta) (offA ta + q9) none)), iv t, J9 (31 : Nat), J9 (32 : Nat), J9 (33 : Nat), J9 (34 : Nat), J9 (35 : Nat), J9 (36 : Nat), J9 (37 : Nat), J9 (38 : Nat), J9 (39 : Nat), J9 (40 : Nat), J9 (41 : Nat), J9 (42 : Nat), J9 (43 : Nat), J9 (44 : Nat), iv t, iv rr, iv at0, Value.agg #[iv t, iv 0, iv rr, iv at0, iv 0, Value.slice none (0 : Nat) (0 : Nat), Value.slice none (0 : Nat) (0 : Nat), Value.bool false], Value.slice ra (32768 : Nat) (32768 : Nat), J0 50, J0 51, J0 52, J0 53, J0 54, iv 0, Value.bool false, Value.bool false, pv hb 1, iv h.ty, iv t, Value.bool false, Value.bool false, Value.bool false, pv hb 3, iv h.bk, Value.bool false, Value.bool false, Value.bool false, pv hb 0, Value.string (St h.tt), iv (↑h.tt.length : Int), Value.bool false, Value.bool false, iv at0, iv (↑q : Int), iv by0, iv pb, iv ((1 : Int) + pb), uv ((1 : Int) + pb), iv (↑q : Int), Value.bool (decide ((↑q : Int) < (48 : Int))), J1 82, J1 83, J1 84, J1 85, J1 86, Value.slice ra (32768 : Nat) (32768 : Nat), iv ((260 : Int) + (↑q : Int)), Value.slice ra (32768 : Nat) (32768 : Nat), iv ((260 : Int) + (↑q : Int)), Value.pointer (some (Addr.mk (blk ra) ((260 : Nat) + q) none)), uv (R.getD ((260 : Nat) + q) (0 : Int)), uv ((1 : Int) + pb), uv (bxor IntKind.u8 (R.getD ((260 : Nat) + q) (0 : Int)) ((1 : Int) + pb)), Value.pointer (some (Addr.mk (blk ra) ((260 : Nat) + q) none)), J2 96, J2 97, J2 98, J2 99, J2 100, tu, tu, tu, tu, tu, tu, tu, tu, tu, tu, tu, tu, tu, tu, tu, tu, tu, tu, tu, tu, tu, tu, tu, tu, tu, tu, tu, tu, tu, tu, tu, tu, tu, tu, tu, tu, tu, tu, tu, tu, tu, tu, tu, tu, tu, tu, tu, tu, tu, tu, tu, tu, tu, tu, tu, tu, tu, tu, tu, tu, tu, tu, tu, tu, tu, tu, tu, tu, tu, tu, tu, tu, tu, tu, tu, tu, tu, tu, tu, tu, tu, tu, tu, tu, tu, tu, tu, tu, tu, tu, tu, tu, tu, tu, tu, tu, tu, tu, tu, tu, tu, tu, tu, tu, tu, tu, tu, tu, tu, tu, tu, tu, tu, tu, tu]) (L' := [row (b2, J2).fst (29 : TypeId) [Value.string (St []), iv 0, iv 0, iv 0, iv 0, Value.bool false], row hb (29 : TypeId) [Value.string (St h.tt), iv h.ty, iv h.mp, iv h.bk, iv h.rm, Value.bool h.bt], bts ra (32768 : Nat) (32768 : Nat) R1, A, TyP te ta tc]) (by kernel_rfl) rfl ?_)
  (focus
    refine Xg.at_seq ?_
    refine Xg.at_region ?_
    refine Xg.ops_op (by kernel_rfl) (Xg.opx_pure ((Value.slice ra (32768 : Nat) (32768 : Nat))) rfl (fun _ => by kernel_rfl) ?_)
    refine Xg.ops_op (by kernel_rfl) (Xg.opx_call1' [2] [bts ra (32768 : Nat) (32768 : Nat) R1, row (b2, J2).fst (29 : TypeId) [Value.string (St []), iv 0, iv 0, iv 0, iv 0, Value.bool false], row hb (29 : TypeId) [Value.string (St h.tt), iv h.ty, iv h.mp, iv h.bk, iv h.rm, Value.bool h.bt], A, TyP te ta tc] (fun _ => by kernel_rfl) (@hn2 ) (by kernel_rfl) (by kernel_rfl) (by kernel_rfl) ?_)
    refine Xg.ops_op (by kernel_rfl) (Xg.opx_pure ((Value.tuple #[Value.pointer none, iv er])) rfl (fun _ => by kernel_rfl) ?_)
    refine Xg.ops_op (by kernel_rfl) (Xg.opx_pure ((Value.pointer none)) rfl (fun _ => by kernel_rfl) ?_)
    refine Xg.ops_op (by kernel_rfl) (Xg.opx_pure ((iv er)) rfl (fun _ => by kernel_rfl) ?_)
    refine Xg.ops_op (by kernel_rfl) (Xg.opx_pure ((Value.pointer none)) rfl (fun _ => by kernel_rfl) ?_)
    refine Xg.ops_op (by kernel_rfl) (Xg.opx_pure ((iv er)) rfl (fun _ => by kernel_rfl) ?_)
    refine Xg.ops_nil ?_
    refine Xg.at_seq ?_
    refine Xg.at_seq ?_
    refine Xg.at_region ?_
    refine Xg.ops_op (by kernel_rfl) (Xg.opx_pure ((iv er)) rfl (fun _ => by kernel_rfl) ?_)
    refine Xg.ops_op (by kernel_rfl) (Xg.opx_pure (.bool (decide ((er : Int) = ((0 : Int))))) rfl (fun _ => by kernel_rfl) ?_)
    refine Xg.ops_op (by kernel_rfl) (Xg.opx_pure ((Value.bool (decide (er = (0 : Int))))) rfl (fun _ => by kernel_rfl) ?_)
    refine Xg.ops_flag (j := 108) (c := (decide (er = (0 : Int)))) (by kernel_rfl) (fun xh2 => absurd (of_decide_eq_true xh2) (by omega)) (fun _ => ?_)
    refine Xg.ops_op (by kernel_rfl) (Xg.opx_pure ((iv er)) rfl (fun _ => by kernel_rfl) ?_)
    refine Xg.ops_op (by kernel_rfl) (Xg.opx_pure ((iv er)) rfl (fun _ => by kernel_rfl) ?_)
    refine Xg.ops_op (by kernel_rfl) (Xg.opx_pure (.bool (!decide ((er : Int) = er))) rfl (fun _ => by kernel_rfl) ?_)
    refine Xg.ops_flag (j := 111) (c := (!decide (er = er))) (by kernel_rfl) (fun xh2 => absurd xh2 (by rw [decide_eq_true (p := (er = er)) (by omega)]; decide)) (fun _ => ?_)
    refine Xg.ops_op (by kernel_rfl) (Xg.opx_pure ((Value.bool false)) rfl (fun _ => by kernel_rfl) ?_)
    refine Xg.ops_op (by kernel_rfl) (Xg.opx_pure ((Value.bool false)) rfl (fun _ => by kernel_rfl) ?_)
    refine Xg.ops_op (by kernel_rfl) (Xg.opx_pure ((Value.pointer none)) rfl (fun _ => by kernel_rfl) ?_)
    refine Xg.ops_op (by kernel_rfl) (Xg.opx_pure ((Value.bool false)) rfl (fun _ => by kernel_rfl) ?_)
    refine Xg.ops_op (by kernel_rfl) (Xg.opx_pure ((Value.bool false)) rfl (fun _ => by kernel_rfl) ?_)
    refine Xg.ops_op (by kernel_rfl) (Xg.opx_pure ((Value.bool false)) rfl (fun _ => by kernel_rfl) ?_)
    refine Xg.ops_op (by kernel_rfl) (Xg.opx_loadn (off := 0) 6 1 [Value.string (St []), iv 0, iv 0, iv 0, iv 0, Value.bool false] (by kernel_rfl) rfl (by kernel_rfl) rfl (Xg.cells_at (by kernel_rfl)) (by kernel_rfl) ?_)
    refine Xg.ops_op (by kernel_rfl) (Xg.opx_loadn (off := 0) 6 2 [Value.string (St h.tt), iv h.ty, iv h.mp, iv h.bk, iv h.rm, Value.bool h.bt] (by kernel_rfl) rfl (by kernel_rfl) rfl (Xg.cells_at (by kernel_rfl)) (by kernel_rfl) ?_)
    refine Xg.ops_op (by kernel_rfl) (Xg.opx_call1' [] [bts ra (32768 : Nat) (32768 : Nat) R1, row (b2, J2).fst (29 : TypeId) [Value.string (St []), iv 0, iv 0, iv 0, iv 0, Value.bool false], row hb (29 : TypeId) [Value.string (St h.tt), iv h.ty, iv h.mp, iv h.bk, iv h.rm, Value.bool h.bt], A, TyP te ta tc] (fun _ => by kernel_rfl) (@hsh ) (by kernel_rfl) (by kernel_rfl) (by kernel_rfl) ?_)
    refine Xg.ops_op (by kernel_rfl) (Xg.opx_pure ((Value.bool false)) rfl (fun _ => by kernel_rfl) ?_)
    refine Xg.ops_nil ?_
    refine Xg.at_false (t := false) (by kernel_rfl) rfl ?_
    refine Xg.at_skip ?_
    refine Xg.at_seq ?_
    refine Xg.at_seq ?_)
  (focus
    refine Xg.at_cut2 (α := (Unit) × (Nat → Value)) (fun x9 => ((fun _ => True) : (Unit) → Prop) x9.1) (fun x9 => Xg.headT [iv w, iv at0, iv by0, tu, tu, tu, Value.bool false, iv t, iv rr, Value.slice ra (32768 : Nat) (32768 : Nat), pv hb 0, iv 0, iv ((260 : Int) + (↑q : Int)), uv ((1 : Int) + pb), pv b2 0, iv er, Value.pointer none, iv er, tu, tu, tu, tu, tu, tu, tu, tu, Value.slice ta (10 : Nat) tc, iv w, iv (↑q9 : Int), Value.pointer (some (Addr.mk (blk ta) (offA ta + q9) none)), iv t, J9 (31 : Nat), J9 (32 : Nat), J9 (33 : Nat), J9 (34 : Nat), J9 (35 : Nat), J9 (36 : Nat), J9 (37 : Nat), J9 (38 : Nat), J9 (39 : Nat), J9 (40 : Nat), J9 (41 : Nat), J9 (42 : Nat), J9 (43 : Nat), J9 (44 : Nat), iv t, iv rr, iv at0, Value.agg #[iv t, iv 0, iv rr, iv at0, iv 0, Value.slice none (0 : Nat) (0 : Nat), Value.slice none (0 : Nat) (0 : Nat), Value.bool false], Value.slice ra (32768 : Nat) (32768 : Nat), J0 50, J0 51, J0 52, J0 53, J0 54, iv 0, Value.bool false, Value.bool false, pv hb 1, iv h.ty, iv t, Value.bool false, Value.bool false, Value.bool false, pv hb 3, iv h.bk, Value.bool false, Value.bool false, Value.bool false, pv hb 0, Value.string (St h.tt), iv (↑h.tt.length : Int), Value.bool false, Value.bool false, iv at0, iv (↑q : Int), iv by0, iv pb, iv ((1 : Int) + pb), uv ((1 : Int) + pb), iv (↑q : Int), Value.bool (decide ((↑q : Int) < (48 : Int))), J1 82, J1 83, J1 84, J1 85, J1 86, Value.slice ra (32768 : Nat) (32768 : Nat), iv ((260 : Int) + (↑q : Int)), Value.slice ra (32768 : Nat) (32768 : Nat), iv ((260 : Int) + (↑q : Int)), Value.pointer (some (Addr.mk (blk ra) ((260 : Nat) + q) none)), uv (R.getD ((260 : Nat) + q) (0 : Int)), uv ((1 : Int) + pb), uv (bxor IntKind.u8 (R.getD ((260 : Nat) + q) (0 : Int)) ((1 : Int) + pb)), Value.pointer (some (Addr.mk (blk ra) ((260 : Nat) + q) none)), J2 96, J2 97, J2 98, J2 99, J2 100, Value.tuple #[Value.pointer none, iv er], Value.slice ra (32768 : Nat) (32768 : Nat), Value.tuple #[Value.pointer none, iv er], Value.pointer none, iv er, iv er, Value.bool (decide (er = (0 : Int))), Value.bool false, iv er, iv er, Value.bool false, Value.bool false, Value.bool false, Value.pointer none, Value.bool false, Value.bool false, Value.bool false, Value.agg #[Value.string (St []), iv 0, iv 0, iv 0, iv 0, Value.bool false], Value.agg #[Value.string (St h.tt), iv h.ty, iv h.mp, iv h.bk, iv h.rm, Value.bool h.bt], Value.bool false, Value.bool false, tu, tu, tu, tu, tu, tu, tu, tu, tu, tu, tu, tu, tu, tu, tu, tu, tu, tu, tu, tu, tu, tu, tu, tu, tu, tu, tu, tu, tu, tu, tu, tu, tu, tu, tu, tu, tu, tu, tu, tu, tu, tu, tu, tu, tu, tu, tu, tu, tu, tu, tu, tu, tu, tu, tu, tu, tu, tu, tu, tu, tu, tu, tu, tu, tu, tu, tu, tu, tu, tu, tu, tu, tu, tu, tu, tu, tu, tu, tu, tu, tu, tu, tu, tu, tu, tu, tu, tu, tu, tu, tu, tu, tu, tu] [6, 122, 123, 124, 125, 126, 127, 128, 129, 130, 131, 132, 133, 134, 135] (((fun _ => []) : (Unit) → List (Nat × Go.Value)) x9.1) x9.2) (fun x9 => ((fun _ => [bts ra 32768 32768 R1, A, TyP te ta tc]) : (Unit) → List Go.Sl.HP) x9.1) (fun kk hk => ?_) ?_)
  · (focus
      refine Xg.at_region ?_
      refine Xg.ops_op (by kernel_rfl) (Xg.opx_pure ((iv ((260 : Int) + (↑q : Int)))) rfl (fun _ => by kernel_rfl) ?_)
      refine Xg.ops_op (by kernel_rfl) (Xg.opx_pure (.bool (decide ((((260 : Int) + (↑q : Int)) : Int) < ((308 : Int))))) rfl (fun _ => by kernel_rfl) ?_)
      refine Xg.ops_op (by kernel_rfl) (Xg.opx_pure ((Value.bool (decide ((260 : Int) + (↑q : Int) < (308 : Int))))) rfl (fun _ => by kernel_rfl) ?_)
      refine Xg.ops_flag (j := 124) (c := (decide ((260 : Int) + (↑q : Int) < (308 : Int)))) (by kernel_rfl) (fun xh2 => ?_) (fun xh2 => ?_)
      replace xh2 : ((260 : Int) + (↑q : Int) < (308 : Int)) := of_decide_eq_true xh2
      rotate_left
      replace xh2 : ¬ (((260 : Int) + (↑q : Int) < (308 : Int))) := of_decide_eq_false xh2
      rotate_right
      refine Xg.ops_op (by kernel_rfl) (Xg.opx_pure ((iv er)) rfl (fun _ => by kernel_rfl) ?_)
      refine Xg.ops_op (by kernel_rfl) (Xg.opx_pure (.bool (!decide ((er : Int) = ((42 : Int))))) rfl (fun _ => by kernel_rfl) ?_)
      refine Xg.ops_flag (j := 126) (c := (!decide (er = (42 : Int)))) (by kernel_rfl) (fun xh3 => absurd xh3 (by rw [decide_eq_true (p := (er = (42 : Int))) (by omega)]; decide)) (fun _ => ?_)
      refine Xg.ops_op (by kernel_rfl) (Xg.opx_pure ((Value.bool false)) rfl (fun _ => by kernel_rfl) ?_)
      refine Xg.ops_op (by kernel_rfl) (Xg.opx_pure ((Value.bool false)) rfl (fun _ => by kernel_rfl) ?_)
      refine Xg.ops_op (by kernel_rfl) (Xg.opx_pure ((iv ((260 : Int) + (↑q : Int)))) rfl (fun _ => by kernel_rfl) ?_)
      refine Xg.ops_op (by kernel_rfl) (Xg.opx_pure (.bool (decide ((((260 : Int) + (↑q : Int)) : Int) ≥ ((308 : Int))))) rfl (fun _ => by kernel_rfl) ?_)
      refine Xg.ops_op (by kernel_rfl) (Xg.opx_pure ((Value.bool (decide ((260 : Int) + (↑q : Int) ≥ (308 : Int))))) rfl (fun _ => by kernel_rfl) ?_)
      refine Xg.ops_flag (j := 131) (c := (decide ((260 : Int) + (↑q : Int) ≥ (308 : Int)))) (by kernel_rfl) (fun xh3 => absurd (of_decide_eq_true xh3) (by omega)) (fun _ => ?_)
      refine Xg.ops_skip (by kernel_rfl) ?_
      refine Xg.ops_skip (by kernel_rfl) ?_
      refine Xg.ops_op (by kernel_rfl) (Xg.opx_pure ((Value.bool false)) rfl (fun _ => by kernel_rfl) ?_)
      refine Xg.ops_op (by kernel_rfl) (Xg.opx_pure ((Value.bool false)) rfl (fun _ => by kernel_rfl) ?_)
      refine Xg.ops_nil ?_
      refine Xg.at_false (t := false) (by kernel_rfl) rfl ?_
      refine Xg.at_skip ?_
      rotate_left
      refine Xg.ops_skip (by kernel_rfl) ?_
      refine Xg.ops_skip (by kernel_rfl) ?_
      refine Xg.ops_op (by kernel_rfl) (Xg.opx_pure ((Value.bool false)) rfl (fun _ => by kernel_rfl) ?_)
      refine Xg.ops_op (by kernel_rfl) (Xg.opx_pure ((Value.bool false)) rfl (fun _ => by kernel_rfl) ?_)
      refine Xg.ops_op (by kernel_rfl) (Xg.opx_pure ((iv ((260 : Int) + (↑q : Int)))) rfl (fun _ => by kernel_rfl) ?_)
      refine Xg.ops_op (by kernel_rfl) (Xg.opx_pure (.bool (decide ((((260 : Int) + (↑q : Int)) : Int) ≥ ((308 : Int))))) rfl (fun _ => by kernel_rfl) ?_)
      refine Xg.ops_op (by kernel_rfl) (Xg.opx_pure ((Value.bool (decide ((260 : Int) + (↑q : Int) ≥ (308 : Int))))) rfl (fun _ => by kernel_rfl) ?_)
      refine Xg.ops_flag (j := 131) (c := (decide ((260 : Int) + (↑q : Int) ≥ (308 : Int)))) (by kernel_rfl) (fun _ => ?_) (fun xh3 => absurd (of_decide_eq_false xh3) (by omega))
      refine Xg.ops_op (by kernel_rfl) (Xg.opx_pure ((iv er)) rfl (fun _ => by kernel_rfl) ?_)
      refine Xg.ops_op (by kernel_rfl) (Xg.opx_pure (.bool (!decide ((er : Int) = ((43 : Int))))) rfl (fun _ => by kernel_rfl) ?_)
      refine Xg.ops_flag (j := 133) (c := (!decide (er = (43 : Int)))) (by kernel_rfl) (fun xh3 => absurd xh3 (by rw [decide_eq_true (p := (er = (43 : Int))) (by omega)]; decide)) (fun _ => ?_)
      refine Xg.ops_op (by kernel_rfl) (Xg.opx_pure ((Value.bool false)) rfl (fun _ => by kernel_rfl) ?_)
      refine Xg.ops_op (by kernel_rfl) (Xg.opx_pure ((Value.bool false)) rfl (fun _ => by kernel_rfl) ?_)
      refine Xg.ops_nil ?_
      refine Xg.at_false (t := false) (by kernel_rfl) rfl ?_
      refine Xg.at_skip ?_)
    (focus
      refine Xg.at_keep [0, 3, 4] (by kernel_rfl) ?_
      refine Xg.At.same (by kernel_rfl) ?_ (hk ((()), fun j9 => ([iv w, iv at0, iv by0, tu, tu, tu, Value.bool false, iv t, iv rr, Value.slice ra (32768 : Nat) (32768 : Nat), pv hb 0, iv 0, iv ((260 : Int) + (↑q : Int)), uv ((1 : Int) + pb), pv b2 0, iv er, Value.pointer none, iv er, tu, tu, tu, tu, tu, tu, tu, tu, Value.slice ta (10 : Nat) tc, iv w, iv (↑q9 : Int), Value.pointer (some (Addr.mk (blk ta) (offA ta + q9) none)), iv t, J9 (31 : Nat), J9 (32 : Nat), J9 (33 : Nat), J9 (34 : Nat), J9 (35 : Nat), J9 (36 : Nat), J9 (37 : Nat), J9 (38 : Nat), J9 (39 : Nat), J9 (40 : Nat), J9 (41 : Nat), J9 (42 : Nat), J9 (43 : Nat), J9 (44 : Nat), iv t, iv rr, iv at0, Value.agg #[iv t, iv 0, iv rr, iv at0, iv 0, Value.slice none (0 : Nat) (0 : Nat), Value.slice none (0 : Nat) (0 : Nat), Value.bool false], Value.slice ra (32768 : Nat) (32768 : Nat), J0 50, J0 51, J0 52, J0 53, J0 54, iv 0, Value.bool false, Value.bool false, pv hb 1, iv h.ty, iv t, Value.bool false, Value.bool false, Value.bool false, pv hb 3, iv h.bk, Value.bool false, Value.bool false, Value.bool false, pv hb 0, Value.string (St h.tt), iv (↑h.tt.length : Int), Value.bool false, Value.bool false, iv at0, iv (↑q : Int), iv by0, iv pb, iv ((1 : Int) + pb), uv ((1 : Int) + pb), iv (↑q : Int), Value.bool (decide ((↑q : Int) < (48 : Int))), J1 82, J1 83, J1 84, J1 85, J1 86, Value.slice ra (32768 : Nat) (32768 : Nat), iv ((260 : Int) + (↑q : Int)), Value.slice ra (32768 : Nat) (32768 : Nat), iv ((260 : Int) + (↑q : Int)), Value.pointer (some (Addr.mk (blk ra) ((260 : Nat) + q) none)), uv (R.getD ((260 : Nat) + q) (0 : Int)), uv ((1 : Int) + pb), uv (bxor IntKind.u8 (R.getD ((260 : Nat) + q) (0 : Int)) ((1 : Int) + pb)), Value.pointer (some (Addr.mk (blk ra) ((260 : Nat) + q) none)), J2 96, J2 97, J2 98, J2 99, J2 100, Value.tuple #[Value.pointer none, iv er], Value.slice ra (32768 : Nat) (32768 : Nat), Value.tuple #[Value.pointer none, iv er], Value.pointer none, iv er, iv er, Value.bool (decide (er = (0 : Int))), Value.bool false, iv er, iv er, Value.bool false, Value.bool false, Value.bool false, Value.pointer none, Value.bool false, Value.bool false, Value.bool false, Value.agg #[Value.string (St []), iv 0, iv 0, iv 0, iv 0, Value.bool false], Value.agg #[Value.string (St h.tt), iv h.ty, iv h.mp, iv h.bk, iv h.rm, Value.bool h.bt], Value.bool false, Value.bool false, iv ((260 : Int) + (↑q : Int)), Value.bool (decide ((260 : Int) + (↑q : Int) < (308 : Int))), Value.bool false, tu, tu, Value.bool false, Value.bool false, iv ((260 : Int) + (↑q : Int)), Value.bool (decide ((260 : Int) + (↑q : Int) ≥ (308 : Int))), Value.bool true, iv er, Value.bool false, Value.bool false, Value.bool false, tu, tu, tu, tu, tu, tu, tu, tu, tu, tu, tu, tu, tu, tu, tu, tu, tu, tu, tu, tu, tu, tu, tu, tu, tu, tu, tu, tu, tu, tu, tu, tu, tu, tu, tu, tu, tu, tu, tu, tu, tu, tu, tu, tu, tu, tu, tu, tu, tu, tu, tu, tu, tu, tu, tu, tu, tu, tu, tu, tu, tu, tu, tu, tu, tu, tu, tu, tu, tu, tu, tu, tu, tu, tu, tu, tu, tu, tu, tu, tu] : List Value).getD j9 undef) ?_))
    · rfl
    · trivial
    (focus
      refine Xg.at_keep [0, 3, 4] (by kernel_rfl) ?_
      refine Xg.At.same (by kernel_rfl) ?_ (hk ((()), fun j9 => ([iv w, iv at0, iv by0, tu, tu, tu, Value.bool false, iv t, iv rr, Value.slice ra (32768 : Nat) (32768 : Nat), pv hb 0, iv 0, iv ((260 : Int) + (↑q : Int)), uv ((1 : Int) + pb), pv b2 0, iv er, Value.pointer none, iv er, tu, tu, tu, tu, tu, tu, tu, tu, Value.slice ta (10 : Nat) tc, iv w, iv (↑q9 : Int), Value.pointer (some (Addr.mk (blk ta) (offA ta + q9) none)), iv t, J9 (31 : Nat), J9 (32 : Nat), J9 (33 : Nat), J9 (34 : Nat), J9 (35 : Nat), J9 (36 : Nat), J9 (37 : Nat), J9 (38 : Nat), J9 (39 : Nat), J9 (40 : Nat), J9 (41 : Nat), J9 (42 : Nat), J9 (43 : Nat), J9 (44 : Nat), iv t, iv rr, iv at0, Value.agg #[iv t, iv 0, iv rr, iv at0, iv 0, Value.slice none (0 : Nat) (0 : Nat), Value.slice none (0 : Nat) (0 : Nat), Value.bool false], Value.slice ra (32768 : Nat) (32768 : Nat), J0 50, J0 51, J0 52, J0 53, J0 54, iv 0, Value.bool false, Value.bool false, pv hb 1, iv h.ty, iv t, Value.bool false, Value.bool false, Value.bool false, pv hb 3, iv h.bk, Value.bool false, Value.bool false, Value.bool false, pv hb 0, Value.string (St h.tt), iv (↑h.tt.length : Int), Value.bool false, Value.bool false, iv at0, iv (↑q : Int), iv by0, iv pb, iv ((1 : Int) + pb), uv ((1 : Int) + pb), iv (↑q : Int), Value.bool (decide ((↑q : Int) < (48 : Int))), J1 82, J1 83, J1 84, J1 85, J1 86, Value.slice ra (32768 : Nat) (32768 : Nat), iv ((260 : Int) + (↑q : Int)), Value.slice ra (32768 : Nat) (32768 : Nat), iv ((260 : Int) + (↑q : Int)), Value.pointer (some (Addr.mk (blk ra) ((260 : Nat) + q) none)), uv (R.getD ((260 : Nat) + q) (0 : Int)), uv ((1 : Int) + pb), uv (bxor IntKind.u8 (R.getD ((260 : Nat) + q) (0 : Int)) ((1 : Int) + pb)), Value.pointer (some (Addr.mk (blk ra) ((260 : Nat) + q) none)), J2 96, J2 97, J2 98, J2 99, J2 100, Value.tuple #[Value.pointer none, iv er], Value.slice ra (32768 : Nat) (32768 : Nat), Value.tuple #[Value.pointer none, iv er], Value.pointer none, iv er, iv er, Value.bool (decide (er = (0 : Int))), Value.bool false, iv er, iv er, Value.bool false, Value.bool false, Value.bool false, Value.pointer none, Value.bool false, Value.bool false, Value.bool false, Value.agg #[Value.string (St []), iv 0, iv 0, iv 0, iv 0, Value.bool false], Value.agg #[Value.string (St h.tt), iv h.ty, iv h.mp, iv h.bk, iv h.rm, Value.bool h.bt], Value.bool false, Value.bool false, iv ((260 : Int) + (↑q : Int)), Value.bool (decide ((260 : Int) + (↑q : Int) < (308 : Int))), Value.bool true, iv er, Value.bool false, Value.bool false, Value.bool false, iv ((260 : Int) + (↑q : Int)), Value.bool (decide ((260 : Int) + (↑q : Int) ≥ (308 : Int))), Value.bool false, tu, tu, Value.bool false, Value.bool false, tu, tu, tu, tu, tu, tu, tu, tu, tu, tu, tu, tu, tu, tu, tu, tu, tu, tu, tu, tu, tu, tu, tu, tu, tu, tu, tu, tu, tu, tu, tu, tu, tu, tu, tu, tu, tu, tu, tu, tu, tu, tu, tu, tu, tu, tu, tu, tu, tu, tu, tu, tu, tu, tu, tu, tu, tu, tu, tu, tu, tu, tu, tu, tu, tu, tu, tu, tu, tu, tu, tu, tu, tu, tu, tu, tu, tu, tu, tu, tu] : List Value).getD j9 undef) ?_))
    · rfl
    · trivial
  rintro ⟨u3, J3⟩ hk0
  clear hk0
  (focus
    refine Xg.At.same (T' := [iv w, iv at0, iv by0, tu, tu, tu, J3 6, iv t, iv rr, Value.slice ra (32768 : Nat) (32768 : Nat), pv hb 0, iv 0, iv ((260 : Int) + (↑q : Int)), uv ((1 : Int) + pb), pv b2 0, iv er, Value.pointer none, iv er, tu, tu, tu, tu, tu, tu, tu, tu, Value.slice ta (10 : Nat) tc, iv w, iv (↑q9 : Int), Value.pointer (some (Addr.mk (blk ta) (offA ta + q9) none)), iv t, J9 (31 : Nat), J9 (32 : Nat), J9 (33 : Nat), J9 (34 : Nat), J9 (35 : Nat), J9 (36 : Nat), J9 (37 : Nat), J9 (38 : Nat), J9 (39 : Nat), J9 (40 : Nat), J9 (41 : Nat), J9 (42 : Nat), J9 (43 : Nat), J9 (44 : Nat), iv t, iv rr, iv at0, Value.agg #[iv t, iv 0, iv rr, iv at0, iv 0, Value.slice none (0 : Nat) (0 : Nat), Value.slice none (0 : Nat) (0 : Nat), Value.bool false], Value.slice ra (32768 : Nat) (32768 : Nat), J0 50, J0 51, J0 52, J0 53, J0 54, iv 0, Value.bool false, Value.bool false, pv hb 1, iv h.ty, iv t, Value.bool false, Value.bool false, Value.bool false, pv hb 3, iv h.bk, Value.bool false, Value.bool false, Value.bool false, pv hb 0, Value.string (St h.tt), iv (↑h.tt.length : Int), Value.bool false, Value.bool false, iv at0, iv (↑q : Int), iv by0, iv pb, iv ((1 : Int) + pb), uv ((1 : Int) + pb), iv (↑q : Int), Value.bool (decide ((↑q : Int) < (48 : Int))), J1 82, J1 83, J1 84, J1 85, J1 86, Value.slice ra (32768 : Nat) (32768 : Nat), iv ((260 : Int) + (↑q : Int)), Value.slice ra (32768 : Nat) (32768 : Nat), iv ((260 : Int) + (↑q : Int)), Value.pointer (some (Addr.mk (blk ra) ((260 : Nat) + q) none)), uv (R.getD ((260 : Nat) + q) (0 : Int)), uv ((1 : Int) + pb), uv (bxor IntKind.u8 (R.getD ((260 : Nat) + q) (0 : Int)) ((1 : Int) + pb)), Value.pointer (some (Addr.mk (blk ra) ((260 : Nat) + q) none)), J2 96, J2 97, J2 98, J2 99, J2 100, Value.tuple #[Value.pointer none, iv er], Value.slice ra (32768 : Nat) (32768 : Nat), Value.tuple #[Value.pointer none, iv er], Value.pointer none, iv er, iv er, Value.bool (decide (er = (0 : Int))), Value.bool false, iv er, iv er, Value.bool false, Value.bool false, Value.bool false, Value.pointer none, Value.bool false, Value.bool false, Value.bool false, Value.agg #[Value.string (St []), iv 0, iv 0, iv 0, iv 0, Value.bool false], Value.agg #[Value.string (St h.tt), iv h.ty, iv h.mp, iv h.bk, iv h.rm, Value.bool h.bt], Value.bool false, Value.bool false, J3 122, J3 123, J3 124, J3 125, J3 126, J3 127, J3 128, J3 129, J3 130, J3 131, J3 132, J3 133, J3 134, J3 135, tu, tu, tu, tu, tu, tu, tu, tu, tu, tu, tu, tu, tu, tu, tu, tu, tu, tu, tu, tu, tu, tu, tu, tu, tu, tu, tu, tu, tu, tu, tu, tu, tu, tu, tu, tu, tu, tu, tu, tu, tu, tu, tu, tu, tu, tu, tu, tu, tu, tu, tu, tu, tu, tu, tu, tu, tu, tu, tu, tu, tu, tu, tu, tu, tu, tu, tu, tu, tu, tu, tu, tu, tu, tu, tu, tu, tu, tu, tu, tu]) (L' := [bts ra (32768 : Nat) (32768 : Nat) R1, A, TyP te ta tc]) (by kernel_rfl) rfl ?_)
  (focus
    refine Xg.at_seq ?_
    refine Xg.at_region ?_
    refine Xg.ops_op (by kernel_rfl) (Xg.opx_pure ((Value.slice ra (32768 : Nat) (32768 : Nat))) rfl (fun _ => by kernel_rfl) ?_)
    refine Xg.ops_op (by kernel_rfl) (Xg.opx_pure ((iv ((260 : Int) + (↑q : Int)))) rfl (fun _ => by kernel_rfl) ?_)
    refine Xg.ops_op (by kernel_rfl) (Xg.opx_pure ((Value.slice ra (32768 : Nat) (32768 : Nat))) rfl (fun _ => by kernel_rfl) ?_)
    refine Xg.ops_op (by kernel_rfl) (Xg.opx_pure ((iv ((260 : Int) + (↑q : Int)))) rfl (fun _ => by kernel_rfl) ?_)
    refine Xg.ops_op (by kernel_rfl) (Xg.opx_ix_own (elem := 5) (kd := .i64) (e := ((260 : Int) + (↑q : Int))) 0 1 (((260 : Int) + (↑q : Int)).toNat) (((260 : Int) + (↑q : Int)).toNat) rfl (by kernel_rfl) (by kernel_rfl) (by kernel_rfl) (by kernel_rfl) (by omega) (by omega) (by omega) ?_)
    refine Xg.ops_op (by kernel_rfl) (Xg.opx_load_own (a := ra) (off := (((260 : Int) + (↑q : Int)).toNat)) 0 (uv (R1.getD ((260 : Int) + (↑q : Int)).toNat (0 : Int))) rfl (by kernel_rfl) (Xg.get_ints (by omega)) (by kernel_rfl) ?_)
    refine Xg.ops_op (by kernel_rfl) (Xg.opx_pure ((uv ((1 : Int) + pb))) rfl (fun _ => by kernel_rfl) ?_)
    refine Xg.ops_op (by kernel_rfl) (Xg.opx_pure (.int .u8 (Xg.bxor .u8 ((R1.getD ((260 : Int) + (↑q : Int)).toNat (0 : Int))) (((1 : Int) + pb)))) rfl (fun _ => by kernel_rfl) ?_)
    refine Xg.ops_op (by kernel_rfl) (Xg.opx_ix_own (elem := 5) (kd := .i64) (e := ((260 : Int) + (↑q : Int))) 0 1 (((260 : Int) + (↑q : Int)).toNat) (((260 : Int) + (↑q : Int)).toNat) rfl (by kernel_rfl) (by kernel_rfl) (by kernel_rfl) (by kernel_rfl) (by omega) (by omega) (by omega) ?_)
    refine Xg.ops_op (by kernel_rfl) (Xg.opx_store_own_i (a := ra) (off := (((260 : Int) + (↑q : Int)).toNat)) (kd := .u8) (xs := R1) (e := (bxor IntKind.u8 (R1.getD ((260 : Int) + (↑q : Int)).toNat (0 : Int)) ((1 : Int) + pb))) 0 (by kernel_rfl) rfl (by kernel_rfl) (by kernel_rfl) (by first | omega | (simp only [List.length_set]; omega)) ?_)
    refine Xg.ops_nil ?_
    refine Xg.at_seq ?_)
  rw [show ((260 : Int) + (q : Int)).toNat = 260 + q by omega, hback]
  (focus
    refine Xg.at_region ?_
    refine Xg.ops_op (by kernel_rfl) (Xg.opx_pure ((iv by0)) rfl (fun _ => by kernel_rfl) ?_)
    refine Xg.ops_op (by kernel_rfl) (Xg.opx_call1' [] [ownS (5 : TypeId) (1 : Nat) (Value.slice ra (32768 : Nat) (32768 : Nat)) (32768 : Nat) (List.map (Value.int IntKind.u8) R), A, TyP te ta tc] (fun _ => by kernel_rfl) (@hpf ) (by kernel_rfl) (by kernel_rfl) (by kernel_rfl) ?_)
    refine Xg.ops_op (by kernel_rfl) (Xg.opx_int .i64 (IntKind.wrap .i64 (((336 : Int) + (↑fr : Int)))) rfl (fun _ => by kernel_rfl) (Xg.wrap_i64_in (by omega)) ?_)
    refine Xg.ops_op (by kernel_rfl) (Xg.opx_pure ((iv ((336 : Int) + (↑fr : Int)))) rfl (fun _ => by kernel_rfl) ?_)
    refine Xg.ops_nil ?_
    refine Xg.at_seq ?_
    refine Xg.at_region ?_
    refine Xg.ops_op (by kernel_rfl) (Xg.opx_pure ((Value.slice ra (32768 : Nat) (32768 : Nat))) rfl (fun _ => by kernel_rfl) ?_)
    refine Xg.ops_op (by kernel_rfl) (Xg.opx_pure ((iv ((336 : Int) + (↑fr : Int)))) rfl (fun _ => by kernel_rfl) ?_)
    refine Xg.ops_op (by kernel_rfl) (Xg.opx_pure ((Value.slice ra (32768 : Nat) (32768 : Nat))) rfl (fun _ => by kernel_rfl) ?_)
    refine Xg.ops_op (by kernel_rfl) (Xg.opx_pure ((iv ((336 : Int) + (↑fr : Int)))) rfl (fun _ => by kernel_rfl) ?_)
    refine Xg.ops_op (by kernel_rfl) (Xg.opx_ix_own (elem := 5) (kd := .i64) (e := ((336 : Int) + (↑fr : Int))) 0 1 (((336 : Int) + (↑fr : Int)).toNat) (((336 : Int) + (↑fr : Int)).toNat) rfl (by kernel_rfl) (by kernel_rfl) (by kernel_rfl) (by kernel_rfl) (by omega) (by omega) (by omega) ?_)
    refine Xg.ops_op (by kernel_rfl) (Xg.opx_load_own (a := ra) (off := (((336 : Int) + (↑fr : Int)).toNat)) 0 (uv (R.getD ((336 : Int) + (↑fr : Int)).toNat (0 : Int))) rfl (by kernel_rfl) (Xg.get_ints (by omega)) (by kernel_rfl) ?_)
    refine Xg.ops_op (by kernel_rfl) (Xg.opx_pure ((uv ((1 : Int) + pb))) rfl (fun _ => by kernel_rfl) ?_)
    refine Xg.ops_op (by kernel_rfl) (Xg.opx_pure (.int .u8 (Xg.bxor .u8 ((R.getD ((336 : Int) + (↑fr : Int)).toNat (0 : Int))) (((1 : Int) + pb)))) rfl (fun _ => by kernel_rfl) ?_)
    refine Xg.ops_op (by kernel_rfl) (Xg.opx_ix_own (elem := 5) (kd := .i64) (e := ((336 : Int) + (↑fr : Int))) 0 1 (((336 : Int) + (↑fr : Int)).toNat) (((336 : Int) + (↑fr : Int)).toNat) rfl (by kernel_rfl) (by kernel_rfl) (by kernel_rfl) (by kernel_rfl) (by omega) (by omega) (by omega) ?_)
    refine Xg.ops_op (by kernel_rfl) (Xg.opx_store_own_i (a := ra) (off := (((336 : Int) + (↑fr : Int)).toNat)) (kd := .u8) (xs := R) (e := (bxor IntKind.u8 (R.getD ((336 : Int) + (↑fr : Int)).toNat (0 : Int)) ((1 : Int) + pb))) 0 (by kernel_rfl) rfl (by kernel_rfl) (by kernel_rfl) (by first | omega | (simp only [List.length_set]; omega)) ?_)
    refine Xg.ops_nil ?_
    refine Xg.at_seq ?_
    refine Xg.at_region ?_
    refine Xg.ops_op (by kernel_rfl) (Xg.opx_pure ((Value.slice ra (32768 : Nat) (32768 : Nat))) rfl (fun _ => by kernel_rfl) ?_)
    refine Xg.ops_op (by kernel_rfl) (Xg.opx_pure ((iv at0)) rfl (fun _ => by kernel_rfl) ?_)
    refine Xg.ops_op (by kernel_rfl) (Xg.opx_call1' [] [ownS (5 : TypeId) (1 : Nat) (Value.slice ra (32768 : Nat) (32768 : Nat)) (32768 : Nat) (List.map (Value.int IntKind.u8) (R.set ((336 : Int) + (↑fr : Int)).toNat (bxor IntKind.u8 (R.getD ((336 : Int) + (↑fr : Int)).toNat (0 : Int)) ((1 : Int) + pb)))), A, TyP te ta tc] (fun _ => by kernel_rfl) (@hpn ) (by kernel_rfl) (by kernel_rfl) (by kernel_rfl) ?_)
    refine Xg.ops_op (by kernel_rfl) (Xg.opx_pure ((iv by0)) rfl (fun _ => by kernel_rfl) ?_)
    refine Xg.ops_op (by kernel_rfl) (Xg.opx_int .u8 (IntKind.wrap .u8 (by0)) rfl (fun _ => by kernel_rfl) (Xg.wrap_u8_mod _) ?_)
    refine Xg.ops_op (by kernel_rfl) (Xg.opx_ix_own (elem := 5) (kd := .i64) (e := ((↑pn : Int))) 0 1 pn pn rfl (by kernel_rfl) (by kernel_rfl) (by kernel_rfl) (by kernel_rfl) rfl (by omega) (by omega) ?_)
    refine Xg.ops_op (by kernel_rfl) (Xg.opx_store_own_i (a := ra) (off := pn) (kd := .u8) (xs := (R.set ((336 : Int) + (↑fr : Int)).toNat (bxor IntKind.u8 (R.getD ((336 : Int) + (↑fr : Int)).toNat (0 : Int)) ((1 : Int) + pb)))) (e := (by0 % (256 : Int))) 0 (by kernel_rfl) rfl (by kernel_rfl) (by kernel_rfl) (by first | omega | (simp only [List.length_set]; omega)) ?_)
    refine Xg.ops_nil ?_
    refine Xg.at_seq ?_)
  rw [show ((336 : Int) + (fr : Int)).toNat = 336 + fr by omega]
  have hbf := isB_get xh1.b (i := 336 + fr) (by omega)
  obtain ⟨y1, y2, y3, y4⟩ := bxor_ok hbf (v := 1 + pb) ⟨by omega, by omega⟩
  have hbx1 := box_set xh1 (by decide) (336 + fr) (Or.inr (by omega)) (Xg.bxor .u8 (R.getD (336 + fr) 0) (1 + pb)) ⟨y2, y3⟩
  have hbx := box_set hbx1 (by decide) pn (Or.inl (by omega)) (by0 % 256) ⟨by omega, by omega⟩
  obtain ⟨R3, hR3⟩ : ∃ R3, (R.set (336 + fr) (Xg.bxor .u8 (R.getD (336 + fr) 0) (1 + pb))).set pn (by0 % 256) = R3 := ⟨_, rfl⟩
  rw [hR3] at hbx ⊢
  have hl3 := hbx.l
  have hck3 := chk_box (k := kd) hbx ht (by decide) hrr hkd hkb (by decide) hcl
  rw [hh] at hck3
  have hc3 := check_d (bts ra 32768 32768 R3) ra 32768 32768 R3 hl3 (Nat.le_refl _) (by decide) hbx.b Xg.reads_own
  rw [hck3] at hc3
  unfold hdV at hc3
  dsimp only at hc3
  (focus
    refine Xg.at_cut (α := (Nat) × (Nat → Value)) (fun x9 => ((fun b => True) : (Nat) → Prop) x9.1) (fun x9 => Xg.headT [iv w, iv at0, iv by0, tu, tu, tu, J3 6, iv t, iv rr, Value.slice ra (32768 : Nat) (32768 : Nat), pv hb 0, iv 0, iv ((260 : Int) + (↑q : Int)), uv ((1 : Int) + pb), pv b2 0, iv er, Value.pointer none, iv er, iv ((336 : Int) + (↑fr : Int)), tu, tu, tu, tu, tu, tu, tu, Value.slice ta (10 : Nat) tc, iv w, iv (↑q9 : Int), Value.pointer (some (Addr.mk (blk ta) (offA ta + q9) none)), iv t, J9 (31 : Nat), J9 (32 : Nat), J9 (33 : Nat), J9 (34 : Nat), J9 (35 : Nat), J9 (36 : Nat), J9 (37 : Nat), J9 (38 : Nat), J9 (39 : Nat), J9 (40 : Nat), J9 (41 : Nat), J9 (42 : Nat), J9 (43 : Nat), J9 (44 : Nat), iv t, iv rr, iv at0, Value.agg #[iv t, iv 0, iv rr, iv at0, iv 0, Value.slice none (0 : Nat) (0 : Nat), Value.slice none (0 : Nat) (0 : Nat), Value.bool false], Value.slice ra (32768 : Nat) (32768 : Nat), J0 50, J0 51, J0 52, J0 53, J0 54, iv 0, Value.bool false, Value.bool false, pv hb 1, iv h.ty, iv t, Value.bool false, Value.bool false, Value.bool false, pv hb 3, iv h.bk, Value.bool false, Value.bool false, Value.bool false, pv hb 0, Value.string (St h.tt), iv (↑h.tt.length : Int), Value.bool false, Value.bool false, iv at0, iv (↑q : Int), iv by0, iv pb, iv ((1 : Int) + pb), uv ((1 : Int) + pb), iv (↑q : Int), Value.bool (decide ((↑q : Int) < (48 : Int))), J1 82, J1 83, J1 84, J1 85, J1 86, Value.slice ra (32768 : Nat) (32768 : Nat), iv ((260 : Int) + (↑q : Int)), Value.slice ra (32768 : Nat) (32768 : Nat), iv ((260 : Int) + (↑q : Int)), Value.pointer (some (Addr.mk (blk ra) ((260 : Nat) + q) none)), uv (R.getD ((260 : Nat) + q) (0 : Int)), uv ((1 : Int) + pb), uv (bxor IntKind.u8 (R.getD ((260 : Nat) + q) (0 : Int)) ((1 : Int) + pb)), Value.pointer (some (Addr.mk (blk ra) ((260 : Nat) + q) none)), J2 96, J2 97, J2 98, J2 99, J2 100, Value.tuple #[Value.pointer none, iv er], Value.slice ra (32768 : Nat) (32768 : Nat), Value.tuple #[Value.pointer none, iv er], Value.pointer none, iv er, iv er, Value.bool (decide (er = (0 : Int))), Value.bool false, iv er, iv er, Value.bool false, Value.bool false, Value.bool false, Value.pointer none, Value.bool false, Value.bool false, Value.bool false, Value.agg #[Value.string (St []), iv 0, iv 0, iv 0, iv 0, Value.bool false], Value.agg #[Value.string (St h.tt), iv h.ty, iv h.mp, iv h.bk, iv h.rm, Value.bool h.bt], Value.bool false, Value.bool false, J3 122, J3 123, J3 124, J3 125, J3 126, J3 127, J3 128, J3 129, J3 130, J3 131, J3 132, J3 133, J3 134, J3 135, Value.slice ra (32768 : Nat) (32768 : Nat), iv ((260 : Int) + (↑q : Int)), Value.slice ra (32768 : Nat) (32768 : Nat), iv ((260 : Int) + (↑q : Int)), Value.pointer (some (Addr.mk (blk ra) ((260 : Nat) + q) none)), uv (R1.getD ((260 : Nat) + q) (0 : Int)), uv ((1 : Int) + pb), uv (bxor IntKind.u8 (R1.getD ((260 : Nat) + q) (0 : Int)) ((1 : Int) + pb)), Value.pointer (some (Addr.mk (blk ra) ((260 : Nat) + q) none)), iv by0, iv (↑fr : Int), iv ((336 : Int) + (↑fr : Int)), Value.slice ra (32768 : Nat) (32768 : Nat), iv ((336 : Int) + (↑fr : Int)), Value.slice ra (32768 : Nat) (32768 : Nat), iv ((336 : Int) + (↑fr : Int)), Value.pointer (some (Addr.mk (blk ra) ((336 : Nat) + fr) none)), uv (R.getD ((336 : Nat) + fr) (0 : Int)), uv ((1 : Int) + pb), uv (bxor IntKind.u8 (R.getD ((336 : Nat) + fr) (0 : Int)) ((1 : Int) + pb)), Value.pointer (some (Addr.mk (blk ra) ((336 : Nat) + fr) none)), Value.slice ra (32768 : Nat) (32768 : Nat), iv at0, iv (↑pn : Int), iv by0, uv (by0 % (256 : Int)), Value.pointer (some (Addr.mk (blk ra) pn none)), tu, tu, tu, tu, tu, tu, tu, tu, tu, tu, tu, tu, tu, tu, tu, tu, tu, tu, tu, tu, tu, tu, tu, tu, tu, tu, tu, tu, tu, tu, tu, tu, tu, tu, tu, tu, tu, tu, tu, tu, tu, tu, tu, tu, tu, tu, tu, tu, tu, tu, tu, tu, tu] [163, 164, 165, 166, 167] (((fun b => [(19, .pointer (some ⟨b, 0, none⟩)), (20, .int .i64 0)]) : (Nat) → List (Nat × Go.Value)) x9.1) x9.2) (fun x9 => ((fun b => [bts ra 32768 32768 R3, A, TyP te ta tc]) : (Nat) → List Go.Sl.HP) x9.1) (fun kk hk => ?_) ?_)
  · (focus
      refine Xg.at_region ?_
      refine Xg.ops_op (by kernel_rfl) (Xg.opx_pure ((Value.slice ra (32768 : Nat) (32768 : Nat))) rfl (fun _ => by kernel_rfl) ?_)
      refine Xg.ops_op (by kernel_rfl) (Xg.opx_call1' [0] [bts ra (32768 : Nat) (32768 : Nat) R3, A, TyP te ta tc] (fun _ => by kernel_rfl) (@hc3 ) (by kernel_rfl) (by kernel_rfl) (by kernel_rfl) ?_)
      refine Xg.ops_op (by kernel_rfl) (Xg.opx_pure ((Value.tuple #[Value.agg #[Value.string (St h.tt), iv h.ty, iv h.mp, iv h.bk, iv h.rm, Value.bool h.bt], iv 0])) rfl (fun _ => by kernel_rfl) ?_)
      refine Xg.ops_op (by kernel_rfl) (Xg.opx_pure ((Value.agg #[Value.string (St h.tt), iv h.ty, iv h.mp, iv h.bk, iv h.rm, Value.bool h.bt])) rfl (fun _ => by kernel_rfl) ?_)
      refine Xg.ops_op (by kernel_rfl) (Xg.opx_pure ((iv 0)) rfl (fun _ => by kernel_rfl) ?_)
      refine Xg.ops_op (by kernel_rfl) (Xg.opx_new 6 [Value.string (ByteArray.mk #[]), iv 0, iv 0, iv 0, iv 0, Value.bool false] (by kernel_rfl) (by kernel_rfl) fun xb1 => ?_)
      refine Xg.ops_op (by kernel_rfl) (Xg.opx_storen 6 (off := 0) 0 [Value.string (St h.tt), iv h.ty, iv h.mp, iv h.bk, iv h.rm, Value.bool h.bt] (by kernel_rfl) rfl (by kernel_rfl) (by kernel_rfl) rfl (by kernel_rfl) (Nat.le_of_ble_eq_true (by kernel_rfl)) ?_)
      refine Xg.ops_op (by kernel_rfl) (Xg.opx_pure ((iv 0)) rfl (fun _ => by kernel_rfl) ?_)
      refine Xg.ops_nil ?_)
    (focus
      refine Xg.at_keep [1, 2, 3] (by kernel_rfl) ?_
      refine Xg.At.same (by kernel_rfl) ?_ (hk (((xb1)), fun j9 => ([iv w, iv at0, iv by0, tu, tu, tu, J3 6, iv t, iv rr, Value.slice ra (32768 : Nat) (32768 : Nat), pv hb 0, iv 0, iv ((260 : Int) + (↑q : Int)), uv ((1 : Int) + pb), pv b2 0, iv er, Value.pointer none, iv er, iv ((336 : Int) + (↑fr : Int)), pv xb1 0, iv 0, tu, tu, tu, tu, tu, Value.slice ta (10 : Nat) tc, iv w, iv (↑q9 : Int), Value.pointer (some (Addr.mk (blk ta) (offA ta + q9) none)), iv t, J9 (31 : Nat), J9 (32 : Nat), J9 (33 : Nat), J9 (34 : Nat), J9 (35 : Nat), J9 (36 : Nat), J9 (37 : Nat), J9 (38 : Nat), J9 (39 : Nat), J9 (40 : Nat), J9 (41 : Nat), J9 (42 : Nat), J9 (43 : Nat), J9 (44 : Nat), iv t, iv rr, iv at0, Value.agg #[iv t, iv 0, iv rr, iv at0, iv 0, Value.slice none (0 : Nat) (0 : Nat), Value.slice none (0 : Nat) (0 : Nat), Value.bool false], Value.slice ra (32768 : Nat) (32768 : Nat), J0 50, J0 51, J0 52, J0 53, J0 54, iv 0, Value.bool false, Value.bool false, pv hb 1, iv h.ty, iv t, Value.bool false, Value.bool false, Value.bool false, pv hb 3, iv h.bk, Value.bool false, Value.bool false, Value.bool false, pv hb 0, Value.string (St h.tt), iv (↑h.tt.length : Int), Value.bool false, Value.bool false, iv at0, iv (↑q : Int), iv by0, iv pb, iv ((1 : Int) + pb), uv ((1 : Int) + pb), iv (↑q : Int), Value.bool (decide ((↑q : Int) < (48 : Int))), J1 82, J1 83, J1 84, J1 85, J1 86, Value.slice ra (32768 : Nat) (32768 : Nat), iv ((260 : Int) + (↑q : Int)), Value.slice ra (32768 : Nat) (32768 : Nat), iv ((260 : Int) + (↑q : Int)), Value.pointer (some (Addr.mk (blk ra) ((260 : Nat) + q) none)), uv (R.getD ((260 : Nat) + q) (0 : Int)), uv ((1 : Int) + pb), uv (bxor IntKind.u8 (R.getD ((260 : Nat) + q) (0 : Int)) ((1 : Int) + pb)), Value.pointer (some (Addr.mk (blk ra) ((260 : Nat) + q) none)), J2 96, J2 97, J2 98, J2 99, J2 100, Value.tuple #[Value.pointer none, iv er], Value.slice ra (32768 : Nat) (32768 : Nat), Value.tuple #[Value.pointer none, iv er], Value.pointer none, iv er, iv er, Value.bool (decide (er = (0 : Int))), Value.bool false, iv er, iv er, Value.bool false, Value.bool false, Value.bool false, Value.pointer none, Value.bool false, Value.bool false, Value.bool false, Value.agg #[Value.string (St []), iv 0, iv 0, iv 0, iv 0, Value.bool false], Value.agg #[Value.string (St h.tt), iv h.ty, iv h.mp, iv h.bk, iv h.rm, Value.bool h.bt], Value.bool false, Value.bool false, J3 122, J3 123, J3 124, J3 125, J3 126, J3 127, J3 128, J3 129, J3 130, J3 131, J3 132, J3 133, J3 134, J3 135, Value.slice ra (32768 : Nat) (32768 : Nat), iv ((260 : Int) + (↑q : Int)), Value.slice ra (32768 : Nat) (32768 : Nat), iv ((260 : Int) + (↑q : Int)), Value.pointer (some (Addr.mk (blk ra) ((260 : Nat) + q) none)), uv (R1.getD ((260 : Nat) + q) (0 : Int)), uv ((1 : Int) + pb), uv (bxor IntKind.u8 (R1.getD ((260 : Nat) + q) (0 : Int)) ((1 : Int) + pb)), Value.pointer (some (Addr.mk (blk ra) ((260 : Nat) + q) none)), iv by0, iv (↑fr : Int), iv ((336 : Int) + (↑fr : Int)), Value.slice ra (32768 : Nat) (32768 : Nat), iv ((336 : Int) + (↑fr : Int)), Value.slice ra (32768 : Nat) (32768 : Nat), iv ((336 : Int) + (↑fr : Int)), Value.pointer (some (Addr.mk (blk ra) ((336 : Nat) + fr) none)), uv (R.getD ((336 : Nat) + fr) (0 : Int)), uv ((1 : Int) + pb), uv (bxor IntKind.u8 (R.getD ((336 : Nat) + fr) (0 : Int)) ((1 : Int) + pb)), Value.pointer (some (Addr.mk (blk ra) ((336 : Nat) + fr) none)), Value.slice ra (32768 : Nat) (32768 : Nat), iv at0, iv (↑pn : Int), iv by0, uv (by0 % (256 : Int)), Value.pointer (some (Addr.mk (blk ra) pn none)), Value.tuple #[Value.agg #[Value.string (St h.tt), iv h.ty, iv h.mp, iv h.bk, iv h.rm, Value.bool h.bt], iv 0], Value.slice ra (32768 : Nat) (32768 : Nat), Value.tuple #[Value.agg #[Value.string (St h.tt), iv h.ty, iv h.mp, iv h.bk, iv h.rm, Value.bool h.bt], iv 0], Value.agg #[Value.string (St h.tt), iv h.ty, iv h.mp, iv h.bk, iv h.rm, Value.bool h.bt], iv 0, tu, tu, tu, tu, tu, tu, tu, tu, tu, tu, tu, tu, tu, tu, tu, tu, tu, tu, tu, tu, tu, tu, tu, tu, tu, tu, tu, tu, tu, tu, tu, tu, tu, tu, tu, tu, tu, tu, tu, tu, tu, tu, tu, tu, tu, tu, tu, tu] : List Value).getD j9 undef) ?_))
    · rfl
    · trivial
  rintro ⟨b4, J4⟩ hk0
  clear hk0
  (focus
    refine Xg.At.same (T' := [iv w, iv at0, iv by0, tu, tu, tu, J3 6, iv t, iv rr, Value.slice ra (32768 : Nat) (32768 : Nat), pv hb 0, iv 0, iv ((260 : Int) + (↑q : Int)), uv ((1 : Int) + pb), pv b2 0, iv er, Value.pointer none, iv er, iv ((336 : Int) + (↑fr : Int)), pv b4 0, iv 0, tu, tu, tu, tu, tu, Value.slice ta (10 : Nat) tc, iv w, iv (↑q9 : Int), Value.pointer (some (Addr.mk (blk ta) (offA ta + q9) none)), iv t, J9 (31 : Nat), J9 (32 : Nat), J9 (33 : Nat), J9 (34 : Nat), J9 (35 : Nat), J9 (36 : Nat), J9 (37 : Nat), J9 (38 : Nat), J9 (39 : Nat), J9 (40 : Nat), J9 (41 : Nat), J9 (42 : Nat), J9 (43 : Nat), J9 (44 : Nat), iv t, iv rr, iv at0, Value.agg #[iv t, iv 0, iv rr, iv at0, iv 0, Value.slice none (0 : Nat) (0 : Nat), Value.slice none (0 : Nat) (0 : Nat), Value.bool false], Value.slice ra (32768 : Nat) (32768 : Nat), J0 50, J0 51, J0 52, J0 53, J0 54, iv 0, Value.bool false, Value.bool false, pv hb 1, iv h.ty, iv t, Value.bool false, Value.bool false, Value.bool false, pv hb 3, iv h.bk, Value.bool false, Value.bool false, Value.bool false, pv hb 0, Value.string (St h.tt), iv (↑h.tt.length : Int), Value.bool false, Value.bool false, iv at0, iv (↑q : Int), iv by0, iv pb, iv ((1 : Int) + pb), uv ((1 : Int) + pb), iv (↑q : Int), Value.bool (decide ((↑q : Int) < (48 : Int))), J1 82, J1 83, J1 84, J1 85, J1 86, Value.slice ra (32768 : Nat) (32768 : Nat), iv ((260 : Int) + (↑q : Int)), Value.slice ra (32768 : Nat) (32768 : Nat), iv ((260 : Int) + (↑q : Int)), Value.pointer (some (Addr.mk (blk ra) ((260 : Nat) + q) none)), uv (R.getD ((260 : Nat) + q) (0 : Int)), uv ((1 : Int) + pb), uv (bxor IntKind.u8 (R.getD ((260 : Nat) + q) (0 : Int)) ((1 : Int) + pb)), Value.pointer (some (Addr.mk (blk ra) ((260 : Nat) + q) none)), J2 96, J2 97, J2 98, J2 99, J2 100, Value.tuple #[Value.pointer none, iv er], Value.slice ra (32768 : Nat) (32768 : Nat), Value.tuple #[Value.pointer none, iv er], Value.pointer none, iv er, iv er, Value.bool (decide (er = (0 : Int))), Value.bool false, iv er, iv er, Value.bool false, Value.bool false, Value.bool false, Value.pointer none, Value.bool false, Value.bool false, Value.bool false, Value.agg #[Value.string (St []), iv 0, iv 0, iv 0, iv 0, Value.bool false], Value.agg #[Value.string (St h.tt), iv h.ty, iv h.mp, iv h.bk, iv h.rm, Value.bool h.bt], Value.bool false, Value.bool false, J3 122, J3 123, J3 124, J3 125, J3 126, J3 127, J3 128, J3 129, J3 130, J3 131, J3 132, J3 133, J3 134, J3 135, Value.slice ra (32768 : Nat) (32768 : Nat), iv ((260 : Int) + (↑q : Int)), Value.slice ra (32768 : Nat) (32768 : Nat), iv ((260 : Int) + (↑q : Int)), Value.pointer (some (Addr.mk (blk ra) ((260 : Nat) + q) none)), uv (R1.getD ((260 : Nat) + q) (0 : Int)), uv ((1 : Int) + pb), uv (bxor IntKind.u8 (R1.getD ((260 : Nat) + q) (0 : Int)) ((1 : Int) + pb)), Value.pointer (some (Addr.mk (blk ra) ((260 : Nat) + q) none)), iv by0, iv (↑fr : Int), iv ((336 : Int) + (↑fr : Int)), Value.slice ra (32768 : Nat) (32768 : Nat), iv ((336 : Int) + (↑fr : Int)), Value.slice ra (32768 : Nat) (32768 : Nat), iv ((336 : Int) + (↑fr : Int)), Value.pointer (some (Addr.mk (blk ra) ((336 : Nat) + fr) none)), uv (R.getD ((336 : Nat) + fr) (0 : Int)), uv ((1 : Int) + pb), uv (bxor IntKind.u8 (R.getD ((336 : Nat) + fr) (0 : Int)) ((1 : Int) + pb)), Value.pointer (some (Addr.mk (blk ra) ((336 : Nat) + fr) none)), Value.slice ra (32768 : Nat) (32768 : Nat), iv at0, iv (↑pn : Int), iv by0, uv (by0 % (256 : Int)), Value.pointer (some (Addr.mk (blk ra) pn none)), J4 163, J4 164, J4 165, J4 166, J4 167, tu, tu, tu, tu, tu, tu, tu, tu, tu, tu, tu, tu, tu, tu, tu, tu, tu, tu, tu, tu, tu, tu, tu, tu, tu, tu, tu, tu, tu, tu, tu, tu, tu, tu, tu, tu, tu, tu, tu, tu, tu, tu, tu, tu, tu, tu, tu, tu]) (L' := [bts ra (32768 : Nat) (32768 : Nat) R3, A, TyP te ta tc]) (by kernel_rfl) rfl ?_)
  have hnw1 := newK_d (bts ra 32768 32768 R3) ra 32768 32768 R3 h κ mn hl3 (Nat.le_refl _) (by decide) hs1 hbx.b Xg.reads_own hck3 (by decide) hk5 hmp hrm hmn2
  (focus
    refine Xg.at_seq ?_
    refine Xg.at_region ?_
    refine Xg.ops_op (by kernel_rfl) (Xg.opx_pure ((Value.slice ra (32768 : Nat) (32768 : Nat))) rfl (fun _ => by kernel_rfl) ?_)
    refine Xg.ops_op (by kernel_rfl) (Xg.opx_callE' [0] (fun xx1 => [CTP κ xx1 h rg0 R3 (List.replicate mn (0 : Int)), bts ra (32768 : Nat) (32768 : Nat) R3, A, TyP te ta tc]) (fun _ => by kernel_rfl) (@hnw1 ) (by kernel_rfl) (by kernel_rfl) (by kernel_rfl) fun xx1 xh2 => ?_)
    try dsimp only at xh2
    refine Xg.ops_op (by kernel_rfl) (Xg.opx_pure ((Value.tuple #[pv xx1.p 0, iv 0])) rfl (fun _ => by kernel_rfl) ?_)
    refine Xg.ops_op (by kernel_rfl) (Xg.opx_pure ((pv xx1.p 0)) rfl (fun _ => by kernel_rfl) ?_)
    refine Xg.ops_op (by kernel_rfl) (Xg.opx_pure ((iv 0)) rfl (fun _ => by kernel_rfl) ?_)
    refine Xg.ops_op (by kernel_rfl) (Xg.opx_pure ((pv xx1.p 0)) rfl (fun _ => by kernel_rfl) ?_)
    refine Xg.ops_op (by kernel_rfl) (Xg.opx_pure ((iv 0)) rfl (fun _ => by kernel_rfl) ?_)
    refine Xg.ops_nil ?_
    refine Xg.at_seq ?_
    refine Xg.at_region ?_
    refine Xg.ops_op (by kernel_rfl) (Xg.opx_pure ((Value.slice ra (32768 : Nat) (32768 : Nat))) rfl (fun _ => by kernel_rfl) ?_)
    refine Xg.ops_op (by kernel_rfl) (Xg.opx_ix_own (elem := 5) (kd := .i64) (e := ((512 : Int))) 1 1 ((512 : Nat)) ((512 : Nat)) rfl (by kernel_rfl) (by kernel_rfl) (by kernel_rfl) (by kernel_rfl) rfl (by omega) (by omega) ?_)
    refine Xg.ops_op (by kernel_rfl) (Xg.opx_load_own (a := ra) (off := ((512 : Nat))) 1 (uv (R3.getD (512 : Nat) (0 : Int))) rfl (by kernel_rfl) (Xg.get_ints (by omega)) (by kernel_rfl) ?_)
    refine Xg.ops_op (by kernel_rfl) (Xg.opx_pure ((uv (R3.getD (512 : Nat) (0 : Int)))) rfl (fun _ => by kernel_rfl) ?_)
    refine Xg.ops_nil ?_
    refine Xg.at_seq ?_
    refine Xg.at_region ?_
    refine Xg.ops_op (by kernel_rfl) (Xg.opx_pure ((Value.slice ra (32768 : Nat) (32768 : Nat))) rfl (fun _ => by kernel_rfl) ?_)
    refine Xg.ops_op (by kernel_rfl) (Xg.opx_pure ((uv (R3.getD (512 : Nat) (0 : Int)))) rfl (fun _ => by kernel_rfl) ?_)
    refine Xg.ops_op (by kernel_rfl) (Xg.opx_pure ((uv ((1 : Int) + pb))) rfl (fun _ => by kernel_rfl) ?_)
    refine Xg.ops_op (by kernel_rfl) (Xg.opx_pure (.int .u8 (Xg.bxor .u8 ((R3.getD (512 : Nat) (0 : Int))) (((1 : Int) + pb)))) rfl (fun _ => by kernel_rfl) ?_)
    refine Xg.ops_op (by kernel_rfl) (Xg.opx_ix_own (elem := 5) (kd := .i64) (e := ((512 : Int))) 1 1 ((512 : Nat)) ((512 : Nat)) rfl (by kernel_rfl) (by kernel_rfl) (by kernel_rfl) (by kernel_rfl) rfl (by omega) (by omega) ?_)
    refine Xg.ops_op (by kernel_rfl) (Xg.opx_store_own_i (a := ra) (off := ((512 : Nat))) (kd := .u8) (xs := R3) (e := (bxor IntKind.u8 (R3.getD (512 : Nat) (0 : Int)) ((1 : Int) + pb))) 1 (by kernel_rfl) rfl (by kernel_rfl) (by kernel_rfl) (by first | omega | (simp only [List.length_set]; omega)) ?_)
    refine Xg.ops_nil ?_
    refine Xg.at_seq ?_)
  have hb5 := isB_get hbx.b (i := 512) (by omega)
  obtain ⟨z1, z2, z3, z4⟩ := bxor_ok hb5 (v := 1 + pb) ⟨by omega, by omega⟩
  have hbx4 := box_set hbx (by decide) 512 (Or.inr (by decide)) (Xg.bxor .u8 (R3.getD 512 0) (1 + pb)) ⟨z2, z3⟩
  have hR4v : (R3.set 512 (Xg.bxor .u8 (R3.getD 512 0) (1 + pb))).getD 512 0 = Xg.bxor .u8 (R3.getD 512 0) (1 + pb) := by
    rw [getD_set _ _ _ _ (by omega), if_pos rfl]
  obtain ⟨R4, hR4⟩ : ∃ R4, R3.set 512 (Xg.bxor .u8 (R3.getD 512 0) (1 + pb)) = R4 := ⟨_, rfl⟩
  rw [hR4] at hbx4 hR4v ⊢
  have hl4 := hbx4.l
  have hck4 := chk_box (k := kd) hbx4 ht (by decide) hrr hkd hkb (by decide) hcl
  rw [hh] at hck4
  have hnw2 := newK_d (bts ra 32768 32768 R4) ra 32768 32768 R4 h κ mn hl4 (Nat.le_refl _) (by decide) hs1 hbx4.b Xg.reads_own hck4 (by decide) hk5 hmp hrm hmn2
  (focus
    refine Xg.at_region ?_
    refine Xg.ops_op (by kernel_rfl) (Xg.opx_pure ((Value.slice ra (32768 : Nat) (32768 : Nat))) rfl (fun _ => by kernel_rfl) ?_)
    refine Xg.ops_op (by kernel_rfl) (Xg.opx_callE' [1] (fun xx2 => [CTP κ xx2 h rg0 R4 (List.replicate mn (0 : Int)), bts ra (32768 : Nat) (32768 : Nat) R4, CTP κ xx1 h rg0 R3 (List.replicate mn (0 : Int)), A, TyP te ta tc]) (fun _ => by kernel_rfl) (@hnw2 ) (by kernel_rfl) (by kernel_rfl) (by kernel_rfl) fun xx2 xh3 => ?_)
    try dsimp only at xh3
    refine Xg.ops_op (by kernel_rfl) (Xg.opx_pure ((Value.tuple #[pv xx2.p 0, iv 0])) rfl (fun _ => by kernel_rfl) ?_)
    refine Xg.ops_op (by kernel_rfl) (Xg.opx_pure ((pv xx2.p 0)) rfl (fun _ => by kernel_rfl) ?_)
    refine Xg.ops_op (by kernel_rfl) (Xg.opx_pure ((iv 0)) rfl (fun _ => by kernel_rfl) ?_)
    refine Xg.ops_op (by kernel_rfl) (Xg.opx_pure ((pv xx2.p 0)) rfl (fun _ => by kernel_rfl) ?_)
    refine Xg.ops_op (by kernel_rfl) (Xg.opx_pure ((iv 0)) rfl (fun _ => by kernel_rfl) ?_)
    refine Xg.ops_nil ?_
    refine Xg.at_seq ?_
    refine Xg.at_seq ?_
    refine Xg.at_region ?_
    refine Xg.ops_op (by kernel_rfl) (Xg.opx_pure ((iv 0)) rfl (fun _ => by kernel_rfl) ?_)
    refine Xg.ops_op (by kernel_rfl) (Xg.opx_pure ((Value.bool false)) rfl (fun _ => by kernel_rfl) ?_)
    refine Xg.ops_op (by kernel_rfl) (Xg.opx_pure ((Value.bool false)) rfl (fun _ => by kernel_rfl) ?_)
    refine Xg.ops_op (by kernel_rfl) (Xg.opx_pure ((iv 0)) rfl (fun _ => by kernel_rfl) ?_)
    refine Xg.ops_op (by kernel_rfl) (Xg.opx_pure ((Value.bool false)) rfl (fun _ => by kernel_rfl) ?_)
    refine Xg.ops_op (by kernel_rfl) (Xg.opx_pure ((Value.bool false)) rfl (fun _ => by kernel_rfl) ?_)
    refine Xg.ops_op (by kernel_rfl) (Xg.opx_pure ((Value.bool false)) rfl (fun _ => by kernel_rfl) ?_)
    refine Xg.ops_op (by kernel_rfl) (Xg.opx_pure ((iv 0)) rfl (fun _ => by kernel_rfl) ?_)
    refine Xg.ops_op (by kernel_rfl) (Xg.opx_pure ((Value.bool false)) rfl (fun _ => by kernel_rfl) ?_)
    refine Xg.ops_op (by kernel_rfl) (Xg.opx_pure ((Value.bool false)) rfl (fun _ => by kernel_rfl) ?_)
    refine Xg.ops_op (by kernel_rfl) (Xg.opx_pure ((Value.bool false)) rfl (fun _ => by kernel_rfl) ?_)
    refine Xg.ops_op (by kernel_rfl) (Xg.opx_pure ((pv xx1.p 0)) rfl (fun _ => by kernel_rfl) ?_)
    refine Xg.ops_op (by kernel_rfl) (Xg.opx_pure ((Value.bool false)) rfl (fun _ => by kernel_rfl) ?_)
    refine Xg.ops_op (by kernel_rfl) (Xg.opx_pure ((Value.bool false)) rfl (fun _ => by kernel_rfl) ?_)
    refine Xg.ops_op (by kernel_rfl) (Xg.opx_pure ((Value.bool false)) rfl (fun _ => by kernel_rfl) ?_)
    refine Xg.ops_op (by kernel_rfl) (Xg.opx_pure ((pv xx2.p 0)) rfl (fun _ => by kernel_rfl) ?_)
    refine Xg.ops_op (by kernel_rfl) (Xg.opx_pure ((Value.bool false)) rfl (fun _ => by kernel_rfl) ?_)
    refine Xg.ops_op (by kernel_rfl) (Xg.opx_pure ((Value.bool false)) rfl (fun _ => by kernel_rfl) ?_)
    refine Xg.ops_nil ?_
    refine Xg.at_false (t := false) (by kernel_rfl) rfl ?_
    refine Xg.at_skip ?_
    refine Xg.at_seq ?_)
  have hrok : (⟨0, 1, 0, 0, 0⟩ : Rg).Ok := ⟨by decide, by decide, by decide, by decide, by decide⟩
  have hrl : (List.replicate mn (0 : Int)).length = mn := List.length_replicate
  have ok1 : CtOk κ xx1 h rg0 R3 (List.replicate mn 0) := ⟨hk5, hmp, hrok, by rw [hbk2]; decide, by rw [hl3, hbk2]; decide, by rw [hl3]; assumption, isB_rep _, by rw [hrl]; exact hram⟩
  have ok2 : CtOk κ xx2 h rg0 R4 (List.replicate mn 0) := ⟨hk5, hmp, hrok, by rw [hbk2]; decide, by rw [hl4, hbk2]; decide, by rw [hl4]; assumption, isB_rep _, by rw [hrl]; exact hram⟩
  have hlow : lowB κ rg0 = 0 := by unfold lowB; rw [if_neg (by simp)]
  have hz1 := readK_d ok1 512 ⟨by decide, by decide⟩
  rw [read_low5 κ _ h.bk R3 _ hlow] at hz1
  have hz2 := readK_d ok2 512 ⟨by decide, by decide⟩
  rw [read_low5 κ _ h.bk R4 _ hlow, hR4v] at hz2
  (focus
    refine Xg.at_region ?_
    refine Xg.ops_op (by kernel_rfl) (Xg.opx_pure ((pv xx1.p 0)) rfl (fun _ => by kernel_rfl) ?_)
    refine Xg.ops_op (by kernel_rfl) (Xg.opx_call1' [2] [CTP κ xx1 h rg0 R3 (List.replicate mn (0 : Int)), CTP κ xx2 h rg0 R4 (List.replicate mn (0 : Int)), bts ra (32768 : Nat) (32768 : Nat) R4, A, TyP te ta tc] (fun _ => by kernel_rfl) (@hz1 ) (by kernel_rfl) (by kernel_rfl) (by kernel_rfl) ?_)
    refine Xg.ops_op (by kernel_rfl) (Xg.opx_pure ((uv (R3.getD (512 : Nat) (0 : Int)))) rfl (fun _ => by kernel_rfl) ?_)
    refine Xg.ops_op (by kernel_rfl) (Xg.opx_pure (.bool (decide (((R3.getD (512 : Nat) (0 : Int)) : Int) = (R3.getD (512 : Nat) (0 : Int))))) rfl (fun _ => by kernel_rfl) ?_)
    refine Xg.ops_op (by kernel_rfl) (Xg.opx_pure ((Value.bool (decide (R3.getD (512 : Nat) (0 : Int) = R3.getD (512 : Nat) (0 : Int))))) rfl (fun _ => by kernel_rfl) ?_)
    refine Xg.ops_flag (j := 208) (c := (decide (R3.getD (512 : Nat) (0 : Int) = R3.getD (512 : Nat) (0 : Int)))) (by kernel_rfl) (fun _ => ?_) (fun xh4 => absurd (of_decide_eq_false xh4) (by omega))
    refine Xg.ops_op (by kernel_rfl) (Xg.opx_pure ((pv xx2.p 0)) rfl (fun _ => by kernel_rfl) ?_)
    refine Xg.ops_op (by kernel_rfl) (Xg.opx_call1' [1] [CTP κ xx2 h rg0 R4 (List.replicate mn (0 : Int)), CTP κ xx1 h rg0 R3 (List.replicate mn (0 : Int)), bts ra (32768 : Nat) (32768 : Nat) R4, A, TyP te ta tc] (fun _ => by kernel_rfl) (@hz2 ) (by kernel_rfl) (by kernel_rfl) (by kernel_rfl) ?_)
    refine Xg.ops_op (by kernel_rfl) (Xg.opx_pure ((uv (R3.getD (512 : Nat) (0 : Int)))) rfl (fun _ => by kernel_rfl) ?_)
    refine Xg.ops_op (by kernel_rfl) (Xg.opx_pure ((uv ((1 : Int) + pb))) rfl (fun _ => by kernel_rfl) ?_)
    refine Xg.ops_op (by kernel_rfl) (Xg.opx_pure (.int .u8 (Xg.bxor .u8 ((R3.getD (512 : Nat) (0 : Int))) (((1 : Int) + pb)))) rfl (fun _ => by kernel_rfl) ?_)
    refine Xg.ops_op (by kernel_rfl) (Xg.opx_pure (.bool (decide (((bxor IntKind.u8 (R3.getD (512 : Nat) (0 : Int)) ((1 : Int) + pb)) : Int) = (bxor IntKind.u8 (R3.getD (512 : Nat) (0 : Int)) ((1 : Int) + pb))))) rfl (fun _ => by kernel_rfl) ?_)
    refine Xg.ops_flag (j := 214) (c := (decide (bxor IntKind.u8 (R3.getD (512 : Nat) (0 : Int)) ((1 : Int) + pb) = bxor IntKind.u8 (R3.getD (512 : Nat) (0 : Int)) ((1 : Int) + pb)))) (by kernel_rfl) (fun _ => ?_) (fun xh4 => absurd (of_decide_eq_false xh4) (by omega))
    refine Xg.ops_op (by kernel_rfl) (Xg.opx_pure ((Value.bool true)) rfl (fun _ => by kernel_rfl) ?_)
    refine Xg.ops_op (by kernel_rfl) (Xg.opx_pure ((Value.bool true)) rfl (fun _ => by kernel_rfl) ?_)
    refine Xg.ops_nil ?_
    refine Xg.at_ret_ps (v := (Value.bool true)) [3, 4] [A, TyP te ta tc] Go.Proofs.Tryd.func3 (fun _ => by kernel_rfl) (by kernel_rfl) (by kernel_rfl) ?_
    exact ⟨by kernel_rfl, by kernel_rfl⟩)
end Go.Proofs.YthjhkondmobaeaaDoor

/- cart's law: a header is strict, of any type. -/
namespace Go.Proofs.YthjhkondmobaeaaDoor
open Go.Sl Go.Xg
set_option linter.unusedVariables false

theorem strict_d (te : TypeId) (A : HP) (ta : Option Addr) (tc : Nat) (hT : Reads A 1 (.slice ta 10 tc) 10 (tyL.map (Value.int .i64))) (w : Int) (hw : iok w) (at0 : Int) (hat : iok at0) (by0 : Int) (hby : iok by0) :
    Does Tryd.prog 3 [.int .i64 w, .int .i64 at0, .int .i64 by0] [A, TyP te ta tc] (Ret (.bool true) [A, TyP te ta tc]) := by
  have h := pick_lt w 10 (by decide)
  rcases (show pickI w 10 = 0 ∨ pickI w 10 = 1 ∨ pickI w 10 = 2 ∨ pickI w 10 = 3 ∨ pickI w 10 = 4 ∨ pickI w 10 = 5 ∨ pickI w 10 = 6 ∨ pickI w 10 = 7 ∨ pickI w 10 = 8 ∨ pickI w 10 = 9 by omega) with e | e | e | e | e | e | e | e | e | e
  · exact strict_any te A ta tc tyL rfl hT w at0 by0 hw hat hby 0 0 0 0 0 ⟨0, 2, [0], false⟩ e (by decide) rfl (by decide) (by decide) (by decide) rfl (by decide) (by decide) (by decide) rfl (by decide) (by decide) (Or.inl rfl)
  · exact strict_any te A ta tc tyL rfl hT w at0 by0 hw hat hby 1 1 0 1 0 ⟨1, 128, [0], false⟩ e (by decide) rfl (by decide) (by decide) (by decide) rfl (by decide) (by decide) (by decide) rfl (by decide) (by decide) (Or.inl rfl)
  · exact strict_any te A ta tc tyL rfl hT w at0 by0 hw hat hby 2 5 0 2 512 ⟨2, 16, [0], false⟩ e (by decide) rfl (by decide) (by decide) (by decide) rfl (by decide) (by decide) (by decide) rfl (by decide) (by decide) (Or.inr (Or.inl ⟨rfl, rfl⟩))
  · exact strict_any te A ta tc tyL rfl hT w at0 by0 hw hat hby 3 17 0 3 0 ⟨3, 128, [0], false⟩ e (by decide) rfl (by decide) (by decide) (by decide) rfl (by decide) (by decide) (by decide) rfl (by decide) (by decide) (Or.inl rfl)
  · exact strict_any te A ta tc tyL rfl hT w at0 by0 hw hat hby 4 25 0 5 0 ⟨5, 128, [0], false⟩ e (by decide) rfl (by decide) (by decide) (by decide) rfl (by decide) (by decide) (by decide) rfl (by decide) (by decide) (Or.inl rfl)
  · exact strict_any te A ta tc tyL rfl hT w at0 by0 hw hat hby 5 9 2 0 8192 ⟨0, 2, [2], true⟩ e (by decide) rfl (by decide) (by decide) (by decide) rfl (by decide) (by decide) (by decide) rfl (by decide) (by decide) (Or.inr (Or.inr ⟨by decide, by decide, by decide, by decide⟩))
  · exact strict_any te A ta tc tyL rfl hT w at0 by0 hw hat hby 6 3 2 1 8192 ⟨1, 128, [2, 3], true⟩ e (by decide) rfl (by decide) (by decide) (by decide) rfl (by decide) (by decide) (by decide) rfl (by decide) (by decide) (Or.inr (Or.inr ⟨by decide, by decide, by decide, by decide⟩))
  · exact strict_any te A ta tc tyL rfl hT w at0 by0 hw hat hby 7 6 0 2 512 ⟨2, 16, [0], true⟩ e (by decide) rfl (by decide) (by decide) (by decide) rfl (by decide) (by decide) (by decide) rfl (by decide) (by decide) (Or.inr (Or.inl ⟨rfl, rfl⟩))
  · exact strict_any te A ta tc tyL rfl hT w at0 by0 hw hat hby 8 19 2 3 8192 ⟨3, 128, [2, 3], true⟩ e (by decide) rfl (by decide) (by decide) (by decide) rfl (by decide) (by decide) (by decide) rfl (by decide) (by decide) (Or.inr (Or.inr ⟨by decide, by decide, by decide, by decide⟩))
  · exact strict_any te A ta tc tyL rfl hT w at0 by0 hw hat hby 9 27 2 5 8192 ⟨5, 128, [2, 3, 4, 5], true⟩ e (by decide) rfl (by decide) (by decide) (by decide) rfl (by decide) (by decide) (by decide) rfl (by decide) (by decide) (Or.inr (Or.inr ⟨by decide, by decide, by decide, by decide⟩))
end Go.Proofs.YthjhkondmobaeaaDoor
