/- The ports' laws: what the laid variable gives; the start of a law over acts. -/
import Derived.Test.YtncdmccdclhokaaDoorRows
import Derived.Test.YtncdmccdclhokaaDoorKP10
import Derived.Test.YtncdmccdclhokaaDoorG9
import Derived.ProofKit
import Derived.LaidMore
import Derived.OpenShut
import Derived.Stop.Joined
namespace Go.Proofs.YtncdmccdclhokaaDoor
open Go.ChangeShapes Go.WideShapes Go.ChangeAt Go.RowKit Go.Sl Go.Xg
set_option maxRecDepth 100000

theorem ownP : ownKnob Tryd.prog.godebug = none := by kernel_rfl
theorem laidOutP : laidOutB Tryd.prog = true := by kernel_rfl
theorem gDrives : Tryd.prog.globalNamed "arcade/ports.drives" = some 0 := by kernel_rfl
theorem tDrives : (Tryd.prog.globals[0]?).map (·.type) = some 96 := by kernel_rfl

abbrev laidP {H : Type} : List (String × DataW H) := [("arcade/ports.drives", Rows.laid_arcade_ports_drives)]

theorem door_metP (os : Os) (args : Array Value) : laidMetH Tryd.prog laidP ((World.doorLaid Tryd.prog 400 os).forCall (fun _ _ => 0) ⟨#[], args, []⟩).memory :=
  laidMetH_of_parts3 (fuel := 8) (laidMet_of_run' 8 (by kernel_rfl) (by kernel_rfl)) (by kernel_rfl) (by kernel_rfl)

/-- What the condition gives: the variable's block. -/
theorem of_laidP {W : World} (h : laidMetH Tryd.prog laidP W) : ∃ te, W.heap[0]? = some (.cells #[.int .u64 9, .int .u64 3, .int .u64 5, .int .u64 7] te) := by
  rw [MakeChecks.laidMetH_plain _ _ _ (by kernel_rfl)] at h
  obtain ⟨ps, ⟨g0, t0, cs0, f0, p0, q0, hg0, ht0, hv0, hd0, rfl, hps⟩, _, hh⟩ := h
  obtain rfl := Option.some.inj (gDrives.symm.trans hg0)
  obtain rfl := Option.some.inj (tDrives.symm.trans ht0)
  have c64 : Tryd.prog.cellsOf 64 = 1 := by kernel_rfl
  have c96 : Tryd.prog.cellsOf 96 = 4 := by kernel_rfl
  obtain ⟨xs, m1, hx0, hx1, hlen, hn3, hel⟩ := DataW.trod_array Tryd.underlying96 hd0
  have e : cs0 = #[.int .u64 9, .int .u64 3, .int .u64 5, .int .u64 7] := by
    obtain ⟨l⟩ := cs0
    rw [c64] at hel
    simp only [Prod.mk.injEq, Rows.laid_arcade_ports_drives, DataW.agg.injEq] at hx1
    have hl4 : l.length = 4 := hlen.trans c96
    match l, hl4, xs, hn3, hx1, hel with
    | [c0, c1, c2, c3], _, [x0, x1, x2, x3], _, hx1, hel =>
      simp only [List.map_cons, List.map_nil, List.cons.injEq, and_true] at hx1
      obtain ⟨⟨g0, g1, g2, g3⟩, _⟩ := hx1
      obtain ⟨n0, k0, e0, _⟩ := DataW.trod_int Tryd.underlying64 (show DataW.trod _ Tryd.prog W 0 _ false m1 64 [c0] = some x0 from hel 0 (by decide))
      obtain ⟨n1, k1, e1, _⟩ := DataW.trod_int Tryd.underlying64 (show DataW.trod _ Tryd.prog W 0 _ false m1 64 [c1] = some x1 from hel 1 (by decide))
      obtain ⟨n2, k2, e2, _⟩ := DataW.trod_int Tryd.underlying64 (show DataW.trod _ Tryd.prog W 0 _ false m1 64 [c2] = some x2 from hel 2 (by decide))
      obtain ⟨n3, k3, e3, _⟩ := DataW.trod_int Tryd.underlying64 (show DataW.trod _ Tryd.prog W 0 _ false m1 64 [c3] = some x3 from hel 3 (by decide))
      subst e0 e1 e2 e3
      simp at k0 k1 k2 k3 g0 g1 g2 g3
      simp [k0, k1, k2, k3, ← g0, ← g1, ← g2, ← g3]
  have hb : ∃ c t, W.heap[0]? = some (.cells c t (0, 0)) := (hh 0 0 (by rw [hps, e]; simp [MemPlace.row])).1
  obtain ⟨c, t, hb⟩ := hb
  refine ⟨t, ?_⟩
  have : W.var? Tryd.prog "arcade/ports.drives" = some c := by simp [World.var?, gDrives, hb]
  rw [this] at hv0
  obtain rfl := Option.some.inj hv0
  rw [hb, e]

/-- No cell of the variable's block holds a number of another kind. -/
theorem drv_no {W : World} {te : TypeId} (hb : W.heap[0]? = some (.cells #[.int .u64 9, .int .u64 3, .int .u64 5, .int .u64 7] te)) {kd : IntKind} (hk : kd ≠ .u64) {ad : Addr} {j : Nat} {i : Int} (h : W.cell? (ad.add j) = some (.int kd i)) : ad.block ≠ 0 := by
  intro e
  have hbl : (ad.add j).block = 0 := (bl_add ad j).trans e
  generalize ad.add j = x at h hbl
  obtain ⟨b, off, pth⟩ := x
  simp only at hbl
  subst hbl
  unfold World.cell? at h
  simp only [hb] at h
  match off, h with
  | 0, h => simp at h; exact hk h.2.1.symm
  | 1, h => simp at h; exact hk h.2.1.symm
  | 2, h => simp at h; exact hk h.2.1.symm
  | 3, h => simp at h; exact hk h.2.1.symm
  | n + 4, h => simp at h

/-- The acts in an argument. -/
theorem acts_arg {H : Type} {enc : TypeId × Value → H} {W : World} {te : TypeId} (hb : W.heap[0]? = some (.cells #[.int .u64 9, .int .u64 3, .int .u64 5, .int .u64 7] te)) {a : Option Addr} {n c : Nat} {d : DataW H} {ps : List MemPlace}
    (h : DataW.Trod enc Tryd.prog W 0 (fun _ => true) true 22 (.slice a n c) d ps) :
    ∃ l : List Act, l.length = n ∧ n ≤ maxLen ∧ Reads (oldBut 0 W) 3 (.slice a n c) n (recs actC l) ∧ ∀ i, i < n → (l.getD i default).ok := by
  obtain ⟨l, hl, hm, hw, hc⟩ := open_recs3 (ti := 3) (kd := .i64) Tryd.underlying22 Tryd.underlying41 ⟨rfl, rfl, rfl⟩ ⟨rfl, rfl, rfl⟩ Tryd.underlying3 (by kernel_rfl) (by kernel_rfl) h
  have er : recs actC (l.map fun x => (⟨x.1, x.2.1, x.2.2⟩ : Act)) = recs (fun x : Int × Int × Int => [Value.int .i64 x.1, .int .i64 x.2.1, .int .i64 x.2.2]) l := by
    simp [recs, List.flatMap_map]
  refine ⟨l.map fun x => ⟨x.1, x.2.1, x.2.2⟩, by simpa using hl, hm, reads_but (by rw [recs_len (wd := 3) (fun _ => rfl)]; simp [hl]) fun j u hu => ?_, fun i hi => ?_⟩
  · rw [er] at hu
    obtain ⟨ad, h1, h2⟩ := hc j u hu
    have hj : j < l.length * 3 := by
      have := (List.getElem?_eq_some_iff.1 hu).1
      rwa [recs_len (wd := 3) (fun _ => rfl)] at this
    have g := get_recs (cells := fun x : Int × Int × Int => [Value.int .i64 x.1, .int .i64 x.2.1, .int .i64 x.2.2]) (wd := 3) (fun _ => rfl) default (l := l) (i := j / 3) (j := j % 3) (by omega) (by omega)
    rw [show j / 3 * 3 + j % 3 = j by omega, hu] at g
    have hu2 : ∃ q : Int, u = .int .i64 q := by
      rcases (show j % 3 = 0 ∨ j % 3 = 1 ∨ j % 3 = 2 by omega) with e | e | e <;> rw [e] at g <;> simp at g <;> exact ⟨_, g⟩
    obtain ⟨q, rfl⟩ := hu2
    exact ⟨ad, h1, drv_no hb (by decide) h2, h2⟩
  · have hi' : i < l.length := by omega
    have := hw (l.getD i default) (by simp [List.getD, hi'])
    have e : (l.map fun x => (⟨x.1, x.2.1, x.2.2⟩ : Act)).getD i default = ⟨(l.getD i default).1, (l.getD i default).2.1, (l.getD i default).2.2⟩ := by simp [List.getD, hi']
    rw [e]
    exact ⟨bounds_i64 this.1, bounds_i64 this.2.1, bounds_i64 this.2.2⟩

end Go.Proofs.YtncdmccdclhokaaDoor
