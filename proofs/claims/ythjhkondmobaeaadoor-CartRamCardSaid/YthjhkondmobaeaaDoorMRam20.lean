import Derived.Test.YthjhkondmobaeaaDoorMRam19
import Derived.Test.YthjhkondmobaeaaDoorRows
import Derived.ProofKit
import Derived.LaidMore
import Derived.OpenShut
import Derived.Stop.Joined
/- cart's laws: what the laid variable gives. -/
namespace Go.Proofs.YthjhkondmobaeaaDoor
open Go.ChangeShapes Go.WideShapes Go.ChangeAt Go.RowKit Go.Sl Go.Xg
set_option maxRecDepth 100000
set_option linter.unusedVariables false
set_option linter.unusedSimpArgs false

theorem ownP : ownKnob Tryd.prog.godebug = none := by kernel_rfl
theorem laidOutP : laidOutB Tryd.prog = true := by kernel_rfl
theorem gTypes : Tryd.prog.globalNamed "arcade/arcadelaw4.types" = some 0 := by kernel_rfl
theorem tTypes : (Tryd.prog.globals[0]?).map (·.type) = some 22 := by kernel_rfl
abbrev laidP {H : Type} : List (String × DataW H) := [("arcade/arcadelaw4.types", Rows.laid_arcade_arcadelaw4_types)]
theorem door_metP (os : Os) (args : Array Value) : laidMetH Tryd.prog laidP ((World.doorLaid Tryd.prog 400 os).forCall (fun _ _ => 0) ⟨#[], args, []⟩).memory :=
  laidMetH_of_parts3 (fuel := 8) (laidMet_of_run' 8 (by kernel_rfl) (by kernel_rfl)) (by kernel_rfl) (by kernel_rfl)
/-- The types, as the text lays them. -/
def tyL : List Int := [0, 1, 5, 17, 25, 9, 3, 6, 19, 27]
theorem lits_nil {H : Type} {xs : List Int} (h : ([] : List (DataW H)) = ChangeShapes.lits .i64 xs) : xs = [] := by
  cases xs with
  | nil => rfl
  | cons x l => cases h
theorem lits_inj {H : Type} : ∀ {xs ys : List Int}, (ChangeShapes.lits .i64 xs : List (DataW H)) = ChangeShapes.lits .i64 ys → xs = ys
  | [], [], _ => rfl
  | [], _ :: _, h => by cases h
  | _ :: _, [], h => by cases h
  | x :: xs, y :: ys, h => by
    simp only [ChangeShapes.lits, List.map_cons, List.cons.injEq, DataW.lit.injEq, Lit.int.injEq] at h
    rw [h.1.2, lits_inj h.2]
/-- What the condition gives: the variable's block, and the numbers behind it. -/
theorem of_laidP {W : World} (h : laidMetH Tryd.prog laidP W) : ∃ te ta tc, W.heap[0]? = some (.cells #[.slice ta 10 tc] te) ∧ ∃ a, ta = some a ∧ ∀ i, i < 10 → W.cell? (a.add i) = some (.int .i64 (tyL.getD i 0)) := by
  rw [MakeChecks.laidMetH_plain _ _ _ (by kernel_rfl)] at h
  obtain ⟨ps, ⟨g0, t0, cs0, f0, p0, q0, hg0, ht0, hv0, hd0, rfl, hps⟩, _, hh⟩ := h
  obtain rfl := Option.some.inj (gTypes.symm.trans hg0)
  obtain rfl := Option.some.inj (tTypes.symm.trans ht0)
  rcases ChangeShapes.open_ints Tryd.underlying22 Tryd.underlying3 (by kernel_rfl) hd0 with ⟨_, hx⟩ | ⟨a, n, c, zs, hcs, _, hnc, _, hz, hx, hcell, _⟩
  · cases congrArg Prod.fst hx
  have hx1 := congrArg Prod.fst hx
  simp only [Rows.laid_arcade_arcadelaw4_types, DataW.slice.injEq] at hx1
  have h1 : zs.take n = tyL := (lits_inj (xs := tyL) hx1.1).symm
  have h2 : zs.drop n = [] := lits_nil hx1.2
  have hzs : zs = tyL := by rw [← List.take_append_drop n zs, h1, h2, List.append_nil]
  have hl : zs.length = 10 := by rw [hzs]; rfl
  have hn1 : 10 ≤ n := by
    have := congrArg List.length h1
    rw [List.length_take, hl] at this
    have e : tyL.length = 10 := rfl
    omega
  have hn : n = 10 := by
    split at hz <;> omega
  subst hn
  have e : cs0 = #[.slice (some a) 10 c] := by
    obtain ⟨l⟩ := cs0
    have : l = [.slice (some a) 10 c] := hcs
    rw [this]
  have hb : ∃ c t, W.heap[0]? = some (.cells c t (0, 0)) := (hh 0 0 (by rw [hps, e]; simp [MemPlace.row])).1
  obtain ⟨c2, t, hb⟩ := hb
  have hv : W.var? Tryd.prog "arcade/arcadelaw4.types" = some c2 := by simp [World.var?, gTypes, hb]
  rw [hv] at hv0
  obtain rfl := Option.some.inj hv0
  refine ⟨t, some a, c, by rw [hb, e], a, rfl, fun i hi => ?_⟩
  rw [hcell i (by omega), hzs]
/-- The numbers, read. -/
theorem reads_types {W : World} {te : TypeId} {ta : Option Addr} {tc : Nat} (hb : W.heap[0]? = some (.cells #[.slice ta 10 tc] te)) (h : ∃ a, ta = some a ∧ ∀ i, i < 10 → W.cell? (a.add i) = some (.int .i64 (tyL.getD i 0))) : Reads (oldBut 0 W) 1 (.slice ta 10 tc) 10 (tyL.map (Value.int .i64)) := by
  obtain ⟨a, rfl, h⟩ := h
  refine reads_but rfl fun j u hu => ⟨a, rfl, ?_, ?_⟩
  · have hj : j < 10 := by
      have := (List.getElem?_eq_some_iff.1 hu).1
      simpa [tyL] using this
    have hc := h j hj
    intro e0
    generalize hx : a.add j = x at hc
    have hbx : x.block = 0 := by rw [← hx, bl_add]; exact e0
    obtain ⟨b, off, pth⟩ := x
    simp only at hbx
    subst hbx
    unfold World.cell? at hc
    simp only [hb] at hc
    match off, hc with
    | 0, hc => simp at hc
    | n + 1, hc => simp at hc
  · have hj : j < 10 := by
      have := (List.getElem?_eq_some_iff.1 hu).1
      simpa [tyL] using this
    rw [h j hj, ← hu, List.getElem?_map]
    rw [List.getD_eq_getElem?_getD, List.getElem?_eq_getElem (show j < tyL.length from hj)]
    rfl
end Go.Proofs.YthjhkondmobaeaaDoor

/- cart's law: the RAM: what it needs. -/
namespace Go.Proofs.YthjhkondmobaeaaDoor
open Go.Sl Go.Xg
set_option linter.unusedVariables false
set_option linter.unusedSimpArgs false
set_option maxHeartbeats 4000000
set_option maxRecDepth 100000

/-- What is written to a bank. -/
def vjI (V : List Int) (nv : Nat) (j : Nat) : Int := if j < nv then V.getD j 0 % 256 else (j : Int) + 1
theorem vjI_ok (V : List Int) (nv j : Nat) (hl : V.length = nv) (ho : ∀ i, i < nv → iok (V.getD i 0)) : (j ≤ 254 → 0 ≤ vjI V nv j ∧ vjI V nv j ≤ 255) := fun hj => by
  unfold vjI
  split <;> omega
theorem read_off (κ : Nat) (r : Rg) (bk : Int) (R M : List Int) (a : Int) (ha : 32768 ≤ a) (h : cellI κ r M.length a < 0) : readI κ r bk R M a = 255 := by
  unfold readI
  rw [if_neg (by omega), if_neg (by omega), if_pos h]
theorem bor_lo (v : Int) (hv : 0 ≤ v ∧ v ≤ 255) : Xg.bor .u8 (Xg.bclr .u8 v 0) 0 = v := by
  have key : ∀ n : Fin 256, Xg.bor .u8 (Xg.bclr .u8 ((n.val : Nat) : Int) 0) 0 = ((n.val : Nat) : Int) := by decide +kernel
  have := key ⟨v.toNat, by omega⟩
  simpa [Int.toNat_of_nonneg hv.1] using this
theorem bor_hi (v : Int) (hv : 0 ≤ v ∧ v ≤ 255) : Xg.bor .u8 (Xg.bclr .u8 v 240) 240 = Xg.bor .u8 (v % 16) 240 := by
  have key : ∀ n : Fin 256, Xg.bor .u8 (Xg.bclr .u8 ((n.val : Nat) : Int) 240) 240 = Xg.bor .u8 (((n.val : Nat) : Int) % 16) 240 := by decide +kernel
  have := key ⟨v.toNat, by omega⟩
  simpa [Int.toNat_of_nonneg hv.1] using this
end Go.Proofs.YthjhkondmobaeaaDoor

/- cart: a cartridge of any kind, one part. -/
namespace Go.Proofs.YthjhkondmobaeaaDoor
open Go.Sl Go.Xg
set_option linter.unusedVariables false
set_option linter.unusedSimpArgs false
set_option maxHeartbeats 4000000
set_option maxRecDepth 100000

/-- Where it lies. -/
structure CtA where
  p : Nat
  mb : Nat
  ra : Option Addr
  rc : Nat
  ma : Option Addr
  deriving Inhabited
/-- Its blocks. -/
def ctL (κ : Nat) (x : CtA) (h : Hd) (r : Rg) (R M : List Int) : List HP := match κ with
  | 0 => [CR x.p h x.ra R.length x.rc x.ma M.length M.length (V0 x.mb), bts x.ra R.length x.rc R, bts x.ma M.length M.length M]
  | 1 => [CR x.p h x.ra R.length x.rc x.ma M.length M.length (V1 x.mb), bts x.ra R.length x.rc R, bts x.ma M.length M.length M, MR1 x.mb r]
  | 2 => [CR x.p h x.ra R.length x.rc x.ma M.length M.length (V2 x.mb), bts x.ra R.length x.rc R, bts x.ma M.length M.length M, MR2 x.mb r]
  | 3 => [CR x.p h x.ra R.length x.rc x.ma M.length M.length (V3 x.mb), bts x.ra R.length x.rc R, bts x.ma M.length M.length M, MR3 x.mb r]
  | _ => [CR x.p h x.ra R.length x.rc x.ma M.length M.length (V5 x.mb), bts x.ra R.length x.rc R, bts x.ma M.length M.length M, MR5 x.mb r]
/-- .. one part. -/
def CTP (κ : Nat) (x : CtA) (h : Hd) (r : Rg) (R M : List Int) : HP := seps (ctL κ x h r R M)
structure CtOk (κ : Nat) (x : CtA) (h : Hd) (r : Rg) (R M : List Int) : Prop where
  k : κ = 0 ∨ κ = 1 ∨ κ = 2 ∨ κ = 3 ∨ κ = 5
  mp : h.mp = (κ : Int)
  r : r.Ok
  bk : 2 ≤ h.bk ∧ h.bk ≤ 128
  rl : (R.length : Int) = 16384 * h.bk
  rc : R.length ≤ x.rc
  b : isB M
  ram : ramOk κ M.length
/-- What a write does to the registers. -/
def regK (κ : Nat) (r : Rg) (a v : Int) : Rg := match κ with
  | 0 => r
  | 1 => regW1 r a v
  | 2 => regW2 r a v
  | 3 => regW3 r a v
  | _ => regW5 r a v
theorem conv_ct {κ : Nat} {x : CtA} {h : Hd} {r r2 : Rg} {R M M2 : List Int} {f : FuncId} {args : List Value} {v : Value}
    (hd : Does Tryd.prog f args (ctL κ x h r R M) (Ret v (ctL κ x h r2 R M2))) : Does Tryd.prog f args [CTP κ x h r R M] (Ret v [CTP κ x h r2 R M2]) :=
  (does_conv (K := []) (ret_e hd) (fun g w F hS => SL.flat.1 hS) fun _ _ g w F hS => ⟨(), trivial, rfl, SL.flat.2 hS⟩ : Does Tryd.prog f args [CTP κ x h r R M] (RetE (fun _ : Unit => True) (fun _ => v) (fun _ => [CTP κ x h r2 R M2]))).mono fun _ _ ⟨_, _, e1, e2⟩ => ⟨e1, e2⟩
theorem readK_d {κ : Nat} {x : CtA} {h : Hd} {r : Rg} {R M : List Int} (hk : CtOk κ x h r R M) (a : Int) (ha : iok a) : Does Tryd.prog 12 [.pointer (some ⟨x.p, 0, none⟩), .int .i64 a] [CTP κ x h r R M] (Ret (.int .u8 (readI κ r h.bk R M a)) [CTP κ x h r R M]) := by
  obtain ⟨k, mp, r9, bk, rl, rc, b, ram⟩ := hk
  refine conv_ct ?_
  rcases k with e | e | e | e | e <;> subst e
  · exact read0_d x.p x.mb h r x.ra _ x.rc x.ma _ _ R M a ha r9 bk rfl rl rc rfl (Nat.le_refl _) b mp ram
  · exact read1_d x.p x.mb h r x.ra _ x.rc x.ma _ _ R M a ha r9 bk rfl rl rc rfl (Nat.le_refl _) b mp ram
  · exact read2_d x.p x.mb h r x.ra _ x.rc x.ma _ _ R M a ha r9 bk rfl rl rc rfl (Nat.le_refl _) b mp ram
  · exact read3_d x.p x.mb h r x.ra _ x.rc x.ma _ _ R M a ha r9 bk rfl rl rc rfl (Nat.le_refl _) b mp ram
  · exact read5_d x.p x.mb h r x.ra _ x.rc x.ma _ _ R M a ha r9 bk rfl rl rc rfl (Nat.le_refl _) b mp ram
theorem writeRK_d {κ : Nat} {x : CtA} {h : Hd} {r : Rg} {R M : List Int} (hk : CtOk κ x h r R M) (a v : Int) (ha : 0 ≤ a ∧ a < 32768) (hv : 0 ≤ v ∧ v ≤ 255) : Does Tryd.prog 13 [.pointer (some ⟨x.p, 0, none⟩), .int .i64 a, .int .u8 v] [CTP κ x h r R M] (Ret (.tuple #[]) [CTP κ x h (regK κ r a v) R M]) := by
  obtain ⟨k, mp, r9, bk, rl, rc, b, ram⟩ := hk
  refine conv_ct ?_
  rcases k with e | e | e | e | e <;> subst e
  · exact writeR0_d x.p x.mb h r x.ra _ x.rc x.ma _ _ R M a v ha hv
  · exact writeR1_d x.p x.mb h r x.ra _ x.rc x.ma _ _ R M a v ha hv
  · exact writeR2_d x.p x.mb h r x.ra _ x.rc x.ma _ _ R M a v ha hv
  · exact writeR3_d x.p x.mb h r x.ra _ x.rc x.ma _ _ R M a v ha hv
  · exact writeR5_d x.p x.mb h r x.ra _ x.rc x.ma _ _ R M a v ha hv
theorem writeNK_d {κ : Nat} {x : CtA} {h : Hd} {r : Rg} {R M : List Int} (hk : CtOk κ x h r R M) (a v : Int) (ha : iok a) (ha2 : a < 0 ∨ 32767 < a) (hv : 0 ≤ v ∧ v ≤ 255) (hc : cellI κ r M.length a < 0) : Does Tryd.prog 13 [.pointer (some ⟨x.p, 0, none⟩), .int .i64 a, .int .u8 v] [CTP κ x h r R M] (Ret (.tuple #[]) [CTP κ x h r R M]) := by
  obtain ⟨k, mp, r9, bk, rl, rc, b, ram⟩ := hk
  refine conv_ct ?_
  rcases k with e | e | e | e | e <;> subst e
  · exact writeN0_d x.p x.mb h r x.ra _ x.rc x.ma _ _ R M a v ha ha2 hv r9 bk rfl rl rc rfl (Nat.le_refl _) b mp ram hc
  · exact writeN1_d x.p x.mb h r x.ra _ x.rc x.ma _ _ R M a v ha ha2 hv r9 bk rfl rl rc rfl (Nat.le_refl _) b mp ram hc
  · exact writeN2_d x.p x.mb h r x.ra _ x.rc x.ma _ _ R M a v ha ha2 hv r9 bk rfl rl rc rfl (Nat.le_refl _) b mp ram hc
  · exact writeN3_d x.p x.mb h r x.ra _ x.rc x.ma _ _ R M a v ha ha2 hv r9 bk rfl rl rc rfl (Nat.le_refl _) b mp ram hc
  · exact writeN5_d x.p x.mb h r x.ra _ x.rc x.ma _ _ R M a v ha ha2 hv r9 bk rfl rl rc rfl (Nat.le_refl _) b mp ram hc
/-- What lies in the RAM behind a write of v. -/
def ramV (κ : Nat) (v : Int) : Int := if κ = 2 then v % 16 else v
theorem writeMK_d {κ : Nat} {x : CtA} {h : Hd} {r : Rg} {R M : List Int} (hk : CtOk κ x h r R M) (a v : Int) (ha : iok a) (ha2 : a < 0 ∨ 32767 < a) (hv : 0 ≤ v ∧ v ≤ 255) (hc : ¬ cellI κ r M.length a < 0) : Does Tryd.prog 13 [.pointer (some ⟨x.p, 0, none⟩), .int .i64 a, .int .u8 v] [CTP κ x h r R M] (Ret (.tuple #[]) [CTP κ x h r R (M.set (cellI κ r M.length a).toNat (ramV κ v))]) := by
  obtain ⟨k, mp, r9, bk, rl, rc, b, ram⟩ := hk
  refine conv_ct ?_
  rcases k with e | e | e | e | e <;> subst e
  · show Does Tryd.prog _ _ [CR x.p h x.ra R.length x.rc x.ma M.length M.length (V0 x.mb), bts x.ra R.length x.rc R, bts x.ma M.length M.length M] (Ret _ [CR x.p h x.ra R.length x.rc x.ma (M.set (cellI 0 r M.length a).toNat (ramV 0 v)).length (M.set (cellI 0 r M.length a).toNat (ramV 0 v)).length (V0 x.mb), bts x.ra R.length x.rc R, bts x.ma (M.set (cellI 0 r M.length a).toNat (ramV 0 v)).length (M.set (cellI 0 r M.length a).toNat (ramV 0 v)).length (M.set (cellI 0 r M.length a).toNat (ramV 0 v))])
    rw [List.length_set]
    exact writeM0_d x.p x.mb h r x.ra _ x.rc x.ma _ _ R M a v ha ha2 hv r9 bk rfl rl rc rfl (Nat.le_refl _) b mp ram hc
  · show Does Tryd.prog _ _ [CR x.p h x.ra R.length x.rc x.ma M.length M.length (V1 x.mb), bts x.ra R.length x.rc R, bts x.ma M.length M.length M, MR1 x.mb r] (Ret _ [CR x.p h x.ra R.length x.rc x.ma (M.set (cellI 1 r M.length a).toNat (ramV 1 v)).length (M.set (cellI 1 r M.length a).toNat (ramV 1 v)).length (V1 x.mb), bts x.ra R.length x.rc R, bts x.ma (M.set (cellI 1 r M.length a).toNat (ramV 1 v)).length (M.set (cellI 1 r M.length a).toNat (ramV 1 v)).length (M.set (cellI 1 r M.length a).toNat (ramV 1 v)), MR1 x.mb r])
    rw [List.length_set]
    exact writeM1_d x.p x.mb h r x.ra _ x.rc x.ma _ _ R M a v ha ha2 hv r9 bk rfl rl rc rfl (Nat.le_refl _) b mp ram hc
  · show Does Tryd.prog _ _ [CR x.p h x.ra R.length x.rc x.ma M.length M.length (V2 x.mb), bts x.ra R.length x.rc R, bts x.ma M.length M.length M, MR2 x.mb r] (Ret _ [CR x.p h x.ra R.length x.rc x.ma (M.set (cellI 2 r M.length a).toNat (ramV 2 v)).length (M.set (cellI 2 r M.length a).toNat (ramV 2 v)).length (V2 x.mb), bts x.ra R.length x.rc R, bts x.ma (M.set (cellI 2 r M.length a).toNat (ramV 2 v)).length (M.set (cellI 2 r M.length a).toNat (ramV 2 v)).length (M.set (cellI 2 r M.length a).toNat (ramV 2 v)), MR2 x.mb r])
    rw [List.length_set]
    exact writeM2_d x.p x.mb h r x.ra _ x.rc x.ma _ _ R M a v ha ha2 hv r9 bk rfl rl rc rfl (Nat.le_refl _) b mp ram hc
  · show Does Tryd.prog _ _ [CR x.p h x.ra R.length x.rc x.ma M.length M.length (V3 x.mb), bts x.ra R.length x.rc R, bts x.ma M.length M.length M, MR3 x.mb r] (Ret _ [CR x.p h x.ra R.length x.rc x.ma (M.set (cellI 3 r M.length a).toNat (ramV 3 v)).length (M.set (cellI 3 r M.length a).toNat (ramV 3 v)).length (V3 x.mb), bts x.ra R.length x.rc R, bts x.ma (M.set (cellI 3 r M.length a).toNat (ramV 3 v)).length (M.set (cellI 3 r M.length a).toNat (ramV 3 v)).length (M.set (cellI 3 r M.length a).toNat (ramV 3 v)), MR3 x.mb r])
    rw [List.length_set]
    exact writeM3_d x.p x.mb h r x.ra _ x.rc x.ma _ _ R M a v ha ha2 hv r9 bk rfl rl rc rfl (Nat.le_refl _) b mp ram hc
  · show Does Tryd.prog _ _ [CR x.p h x.ra R.length x.rc x.ma M.length M.length (V5 x.mb), bts x.ra R.length x.rc R, bts x.ma M.length M.length M, MR5 x.mb r] (Ret _ [CR x.p h x.ra R.length x.rc x.ma (M.set (cellI 5 r M.length a).toNat (ramV 5 v)).length (M.set (cellI 5 r M.length a).toNat (ramV 5 v)).length (V5 x.mb), bts x.ra R.length x.rc R, bts x.ma (M.set (cellI 5 r M.length a).toNat (ramV 5 v)).length (M.set (cellI 5 r M.length a).toNat (ramV 5 v)).length (M.set (cellI 5 r M.length a).toNat (ramV 5 v)), MR5 x.mb r])
    rw [List.length_set]
    exact writeM5_d x.p x.mb h r x.ra _ x.rc x.ma _ _ R M a v ha ha2 hv r9 bk rfl rl rc rfl (Nat.le_refl _) b mp ram hc
/-- New without a save, of any kind. -/
theorem newK_d (A : HP) (a : Option Addr) (n c : Nat) (B : List Int) (h : Hd) (κ mn : Nat) (hn : B.length = n) (hc : n ≤ c) (hm : n ≤ 100000000) (ha : a.isNone = false) (hB : isB B) (hR : Reads A 1 (.slice a n c) n (B.map (Value.int .u8))) (he : chk B = (h, 0)) (hn0 : 0 < n) (hk : κ = 0 ∨ κ = 1 ∨ κ = 2 ∨ κ = 3 ∨ κ = 5) (hmp : h.mp = (κ : Int)) (hrm : h.rm = (mn : Int)) (hmn : mn ≤ 131072) :
    Does Tryd.prog 10 [.slice a n c, .slice none 0 0] [A] (RetE (fun x : CtA => n ≤ x.rc) (fun x => .tuple #[.pointer (some ⟨x.p, 0, none⟩), .int .i64 0]) (fun x => [CTP κ x h rg0 B (List.replicate mn 0), A])) := by
  rcases hk with e | e | e | e | e <;> subst e
  · refine does_conv (K := []) (new0_d A a n c B h mn hn hc hm ha hB hR he hn0 hmp hrm hmn) (fun g w F hS => hS) fun y hy g w F hS => ⟨⟨y.1, y.2.1, y.2.2.1, y.2.2.2.1, y.2.2.2.2⟩, hy, rfl, ?_⟩
    have h1 : SL g ([CR y.1 h y.2.2.1 n y.2.2.2.1 y.2.2.2.2 mn mn (V0 y.2.1), bts y.2.2.1 n y.2.2.2.1 B, bts y.2.2.2.2 mn mn (List.replicate mn 0)] ++ (A :: F)) w := hS
    refine SL.flat.2 ?_
    show SL g ([CR y.1 h y.2.2.1 B.length y.2.2.2.1 y.2.2.2.2 (List.replicate mn (0 : Int)).length (List.replicate mn (0 : Int)).length (V0 y.2.1), bts y.2.2.1 B.length y.2.2.2.1 B, bts y.2.2.2.2 (List.replicate mn (0 : Int)).length (List.replicate mn (0 : Int)).length (List.replicate mn 0)] ++ (A :: F)) w
    rw [List.length_replicate, hn]
    exact h1
  · refine does_conv (K := []) (new1_d A a n c B h mn hn hc hm ha hB hR he hn0 hmp hrm hmn) (fun g w F hS => hS) fun y hy g w F hS => ⟨⟨y.1, y.2.1, y.2.2.1, y.2.2.2.1, y.2.2.2.2⟩, hy, rfl, ?_⟩
    have h1 : SL g ([CR y.1 h y.2.2.1 n y.2.2.2.1 y.2.2.2.2 mn mn (V1 y.2.1), bts y.2.2.1 n y.2.2.2.1 B, bts y.2.2.2.2 mn mn (List.replicate mn 0), MR1 y.2.1 rg0] ++ (A :: F)) w := hS
    refine SL.flat.2 ?_
    show SL g ([CR y.1 h y.2.2.1 B.length y.2.2.2.1 y.2.2.2.2 (List.replicate mn (0 : Int)).length (List.replicate mn (0 : Int)).length (V1 y.2.1), bts y.2.2.1 B.length y.2.2.2.1 B, bts y.2.2.2.2 (List.replicate mn (0 : Int)).length (List.replicate mn (0 : Int)).length (List.replicate mn 0), MR1 y.2.1 rg0] ++ (A :: F)) w
    rw [List.length_replicate, hn]
    exact h1
  · refine does_conv (K := []) (new2_d A a n c B h mn hn hc hm ha hB hR he hn0 hmp hrm hmn) (fun g w F hS => hS) fun y hy g w F hS => ⟨⟨y.1, y.2.1, y.2.2.1, y.2.2.2.1, y.2.2.2.2⟩, hy, rfl, ?_⟩
    have h1 : SL g ([CR y.1 h y.2.2.1 n y.2.2.2.1 y.2.2.2.2 mn mn (V2 y.2.1), bts y.2.2.1 n y.2.2.2.1 B, bts y.2.2.2.2 mn mn (List.replicate mn 0), MR2 y.2.1 rg0] ++ (A :: F)) w := hS
    refine SL.flat.2 ?_
    show SL g ([CR y.1 h y.2.2.1 B.length y.2.2.2.1 y.2.2.2.2 (List.replicate mn (0 : Int)).length (List.replicate mn (0 : Int)).length (V2 y.2.1), bts y.2.2.1 B.length y.2.2.2.1 B, bts y.2.2.2.2 (List.replicate mn (0 : Int)).length (List.replicate mn (0 : Int)).length (List.replicate mn 0), MR2 y.2.1 rg0] ++ (A :: F)) w
    rw [List.length_replicate, hn]
    exact h1
  · refine does_conv (K := []) (new3_d A a n c B h mn hn hc hm ha hB hR he hn0 hmp hrm hmn) (fun g w F hS => hS) fun y hy g w F hS => ⟨⟨y.1, y.2.1, y.2.2.1, y.2.2.2.1, y.2.2.2.2⟩, hy, rfl, ?_⟩
    have h1 : SL g ([CR y.1 h y.2.2.1 n y.2.2.2.1 y.2.2.2.2 mn mn (V3 y.2.1), bts y.2.2.1 n y.2.2.2.1 B, bts y.2.2.2.2 mn mn (List.replicate mn 0), MR3 y.2.1 rg0] ++ (A :: F)) w := hS
    refine SL.flat.2 ?_
    show SL g ([CR y.1 h y.2.2.1 B.length y.2.2.2.1 y.2.2.2.2 (List.replicate mn (0 : Int)).length (List.replicate mn (0 : Int)).length (V3 y.2.1), bts y.2.2.1 B.length y.2.2.2.1 B, bts y.2.2.2.2 (List.replicate mn (0 : Int)).length (List.replicate mn (0 : Int)).length (List.replicate mn 0), MR3 y.2.1 rg0] ++ (A :: F)) w
    rw [List.length_replicate, hn]
    exact h1
  · refine does_conv (K := []) (new5_d A a n c B h mn hn hc hm ha hB hR he hn0 hmp hrm hmn) (fun g w F hS => hS) fun y hy g w F hS => ⟨⟨y.1, y.2.1, y.2.2.1, y.2.2.2.1, y.2.2.2.2⟩, hy, rfl, ?_⟩
    have h1 : SL g ([CR y.1 h y.2.2.1 n y.2.2.2.1 y.2.2.2.2 mn mn (V5 y.2.1), bts y.2.2.1 n y.2.2.2.1 B, bts y.2.2.2.2 mn mn (List.replicate mn 0), MR5 y.2.1 rg0] ++ (A :: F)) w := hS
    refine SL.flat.2 ?_
    show SL g ([CR y.1 h y.2.2.1 B.length y.2.2.2.1 y.2.2.2.2 (List.replicate mn (0 : Int)).length (List.replicate mn (0 : Int)).length (V5 y.2.1), bts y.2.2.1 B.length y.2.2.2.1 B, bts y.2.2.2.2 (List.replicate mn (0 : Int)).length (List.replicate mn (0 : Int)).length (List.replicate mn 0), MR5 y.2.1 rg0] ++ (A :: F)) w
    rw [List.length_replicate, hn]
    exact h1
end Go.Proofs.YthjhkondmobaeaaDoor

/- cart's law: the RAM, plain: what the writes and reads of the law come to, of any kind. -/
namespace Go.Proofs.YthjhkondmobaeaaDoor
open Go.Sl Go.Xg
set_option linter.unusedVariables false
set_option linter.unusedSimpArgs false

/-- The registers, let and with a bank; and not let. -/
def rI (κ : Nat) (p : Nat) : Rg := if κ = 2 then ⟨1, 1, 0, 0, 0⟩ else if κ = 1 then ⟨1, 1, 0, (p : Int), 1⟩ else ⟨1, 1, 0, (p : Int), 0⟩
def rO (κ : Nat) (p : Nat) : Rg := if κ = 2 then ⟨0, 1, 0, 0, 0⟩ else if κ = 1 then ⟨0, 1, 0, (p : Int), 1⟩ else ⟨0, 1, 0, (p : Int), 0⟩
abbrev kOn (κ : Nat) : Prop := κ = 1 ∨ κ = 2 ∨ κ = 3 ∨ κ = 5
theorem rI_ok {κ : Nat} (hk : kOn κ) {p : Nat} (hp : p ≤ 3) : (rI κ p).Ok ∧ (rO κ p).Ok := by
  rcases hk with e | e | e | e <;> subst e <;> refine ⟨⟨?_, ?_, ?_, ?_, ?_⟩, ⟨?_, ?_, ?_, ?_, ?_⟩⟩ <;> first | (simp [rI, rO]; done) | (simp [rI, rO]; omega)
theorem reg_open {κ : Nat} (hk : kOn κ) : regK κ (regK κ rg0 0 10) 24576 1 = rI κ 0 := by
  rcases hk with e | e | e | e <;> subst e <;> rfl
theorem reg_bank {κ : Nat} (hk : kOn κ) (h2 : κ ≠ 2) {p i : Nat} (hi : i ≤ 3) : regK κ (rI κ p) 16384 (i : Int) = rI κ i := by
  rcases hk with e | e | e | e <;> subst e
  · show regW1 ⟨1, 1, 0, (p : Int), 1⟩ 16384 (i : Int) = ⟨1, 1, 0, (i : Int), 1⟩
    unfold regW1
    rw [if_neg (by decide), if_neg (by decide), if_pos (by decide)]
    dsimp only
    congr 1
    omega
  · exact absurd rfl h2
  · show regW3 ⟨1, 1, 0, (p : Int), 0⟩ 16384 (i : Int) = ⟨1, 1, 0, (i : Int), 0⟩
    unfold regW3
    rw [if_neg (by decide), if_neg (by decide), if_pos (by decide)]
    dsimp only
    congr 1
    omega
  · show regW5 ⟨1, 1, 0, (p : Int), 0⟩ 16384 (i : Int) = ⟨1, 1, 0, (i : Int), 0⟩
    unfold regW5
    rw [if_neg (by decide), if_neg (by decide), if_neg (by decide), if_pos (by decide)]
    dsimp only
    congr 1
    omega
theorem reg_shut {κ : Nat} (hk : kOn κ) (p : Nat) (s : Int) (hs : 0 ≤ s ∧ s < 9) : regK κ (rI κ p) 0 s = rO κ p := by
  have h1 : onV s = 0 := by unfold onV; rw [if_neg (by omega)]
  have h2 : (if s = 10 then (1 : Int) else 0) = 0 := if_neg (by omega)
  rcases hk with e | e | e | e <;> subst e
  · show (⟨onV s, 1, 0, (p : Int), 1⟩ : Rg) = ⟨0, 1, 0, (p : Int), 1⟩
    rw [h1]
  · show (⟨onV s, 1, 0, 0, 0⟩ : Rg) = ⟨0, 1, 0, 0, 0⟩
    rw [h1]
  · show (⟨onV s, 1, 0, (p : Int), 0⟩ : Rg) = ⟨0, 1, 0, (p : Int), 0⟩
    rw [h1]
  · show (⟨if s = 10 then 1 else 0, 1, 0, (p : Int), 0⟩ : Rg) = ⟨0, 1, 0, (p : Int), 0⟩
    rw [h2]
theorem reg_open2 {κ : Nat} (hk : kOn κ) (p : Nat) : regK κ (rO κ p) 0 10 = rI κ p := by
  rcases hk with e | e | e | e <;> subst e <;> rfl
theorem cell_off {κ : Nat} (hk : kOn κ) (p : Nat) (mn : Nat) (a : Int) : cellI κ (rO κ p) mn a < 0 := by
  have h : ramO κ (rO κ p) = false := by
    rcases hk with e | e | e | e <;> subst e <;> simp [ramO, rO]
  unfold cellI
  rw [if_pos (Or.inr (Or.inr (Or.inl h)))]
  decide
theorem cell_off0 {κ : Nat} (hk : kOn κ) (mn : Nat) (a : Int) : cellI κ rg0 mn a < 0 := by
  have h : ramO κ rg0 = false := by
    rcases hk with e | e | e | e <;> subst e <;> simp [ramO]
  unfold cellI
  rw [if_pos (Or.inr (Or.inr (Or.inl h)))]
  decide
/-- Where a bank's byte lies. -/
def posK (κ o i : Nat) : Nat := if κ = 2 then o % 512 else i * 8192 + o
theorem cell_on {κ : Nat} (hk : kOn κ) (i bks o mn : Nat) (hi : i < bks) (hb : bks ≤ 4) (hm : κ = 2 ∧ bks = 1 ∧ mn = 512 ∨ κ ≠ 2 ∧ mn = 8192 * bks) (ho : o < 8192) : cellI κ (rI κ i) mn (40960 + (o : Int)) = ((posK κ o i : Nat) : Int) := by
  have h : ramO κ (rI κ i) = true := by
    rcases hk with e | e | e | e <;> subst e <;> simp [ramO, rI] <;> omega
  unfold cellI posK
  rw [if_neg (by rw [h]; simp; omega)]
  rcases hk with e | e | e | e <;> subst e
  · rw [if_neg (by decide), if_neg (by decide)]
    show (if (1 : Int) = 1 then (i : Int) else 0) % _ * 8192 + _ - 40960 = _
    rw [if_pos rfl, Int.emod_eq_of_lt (by omega) (by omega)]
    omega
  · rw [if_pos rfl, if_pos rfl]
    omega
  · rw [if_neg (by decide), if_neg (by decide)]
    show (i : Int) % _ * 8192 + _ - 40960 = _
    rw [Int.emod_eq_of_lt (by omega) (by omega)]
    omega
  · rw [if_neg (by decide), if_neg (by decide)]
    show (i : Int) % _ * 8192 + _ - 40960 = _
    rw [Int.emod_eq_of_lt (by omega) (by omega)]
    omega
/-- What is read where v lies. -/
def rvK (κ : Nat) (v : Int) : Int := if κ = 2 then Xg.bor .u8 v 240 else v
theorem read_onK (κ : Nat) (r : Rg) (bk : Int) (R M : List Int) (a : Int) (p : Nat) (ha : 32768 ≤ a) (h : cellI κ r M.length a = (p : Int)) : readI κ r bk R M a = rvK κ (M.getD p 0) := by
  unfold readI rvK
  rw [if_neg (by omega), if_neg (by omega), h, if_neg (by omega), Int.toNat_natCast]
def hgK (κ : Nat) : Int := if κ = 2 then 240 else 0
theorem rv_zero (κ : Nat) : rvK κ 0 = hgK κ := by
  unfold rvK hgK
  split
  · decide
  · rfl
theorem rv_v (κ : Nat) (v : Int) (hv : 0 ≤ v ∧ v ≤ 255) : rvK κ (ramV κ v) = Xg.bor .u8 (Xg.bclr .u8 v (hgK κ)) (hgK κ) := by
  unfold rvK ramV hgK
  by_cases h : κ = 2
  · rw [if_pos h, if_pos h, if_pos h, bor_hi v hv]
  · rw [if_neg h, if_neg h, if_neg h, bor_lo v hv]
theorem ramV_ok (κ : Nat) (v : Int) (hv : 0 ≤ v ∧ v ≤ 255) : 0 ≤ ramV κ v ∧ ramV κ v ≤ 255 := by
  unfold ramV; split <;> omega
theorem posK_lt {κ o i bks mn : Nat} (hi : i < bks) (ho : o < 8192) (hm : κ = 2 ∧ bks = 1 ∧ mn = 512 ∨ κ ≠ 2 ∧ mn = 8192 * bks) : posK κ o i < mn := by
  unfold posK
  split <;> omega
theorem posK_ne {κ o i j bks mn : Nat} (hi : i < bks) (hj : j < bks) (hne : j ≠ i) (hm : κ = 2 ∧ bks = 1 ∧ mn = 512 ∨ κ ≠ 2 ∧ mn = 8192 * bks) : posK κ o j ≠ posK κ o i := by
  unfold posK
  split <;> omega
end Go.Proofs.YthjhkondmobaeaaDoor

/- cart's law: what is written to the RAM is there, of any kind that has a mapper. -/
namespace Go.Proofs.YthjhkondmobaeaaDoor
open Go.Sl Go.Xg
set_option linter.unusedVariables false
set_option linter.unusedSimpArgs false
set_option maxHeartbeats 4000000
set_option maxRecDepth 100000

theorem ram_any (te : TypeId) (A : HP) (ta : Option Addr) (tc : Nat) (Tl : List Int) (hTl : Tl.length = 10) (hT : Reads A 1 (.slice ta 10 tc) 10 (Tl.map (Value.int .i64))) (w cd at0 sh : Int) (hw : iok w) (hcd : iok cd) (hat : iok at0) (hsh : iok sh) (va : Option Addr) (nv vc : Nat) (V : List Int) (hVl : V.length = nv) (hnv : nv ≤ maxLen) (hV : Reads A 1 (.slice va nv vc) nv (V.map (Value.int .i64))) (hVo : ∀ i, i < nv → iok (V.getD i 0))
    (q9 : Nat) (t rr : Int) (κ mn bks : Nat) (kd : Kd) (hq : pickI w 5 = (q9 : Int)) (hqq : q9 < 5) (hTq : Tl.getD (5 + q9) 0 = t) (ht : 0 ≤ t ∧ t ≤ 255) (hcc : t = 6 ∧ rr = 0 ∧ bks = 1 ∧ κ = 2 ∧ mn = 512 ∨ (t = 3 ∨ t = 19 ∨ t = 27) ∧ pickI cd 2 = 1 ∧ rr = 3 ∧ bks = 4 ∧ κ ≠ 2 ∧ mn = 32768 ∨ (t = 3 ∨ t = 19 ∨ t = 27) ∧ pickI cd 2 = 0 ∧ rr = 2 ∧ bks = 1 ∧ κ ≠ 2 ∧ mn = 8192) (hkd : kdOf t = some kd) (hcl : rr ∈ kd.cl) (hkb : bnk 0 ≤ kd.bk) (hkk : kOn κ) (hkm : kd.mp = (κ : Int)) (hmn : (if kd.mp = 2 then 512 else rmC rr) = (mn : Int)) :
    Does Tryd.prog 5 [.int .i64 w, .int .i64 cd, .slice va nv vc, .int .i64 at0, .int .i64 sh] [A, TyP te ta tc] (Ret (.bool true) [A, TyP te ta tc]) := by
  have hml : maxLen = 9223372036854775807 := by unfold maxLen; decide
  have hpw := pick_d w 5 hw (by decide)
  rw [hq] at hpw
  have hpc := pick_d cd 2 hcd (by decide)
  have hpa := pick_d at0 8192 hat (by decide)
  have hla := pick_lt at0 8192 (by decide)
  obtain ⟨o, ho⟩ : ∃ o : Nat, pickI at0 8192 = (o : Int) := ⟨(pickI at0 8192).toNat, by omega⟩
  rw [ho] at hpa hla
  have ho8 : o < 8192 := by omega
  have hps := pick_d sh 9 hsh (by decide)
  have hls := pick_lt sh 9 (by decide)
  obtain ⟨s9, hs9⟩ : ∃ s : Int, pickI sh 9 = s := ⟨_, rfl⟩
  rw [hs9] at hps hls
  have hmm : κ = 2 ∧ bks = 1 ∧ mn = 512 ∨ κ ≠ 2 ∧ mn = 8192 * bks := by omega
  have hb4 : 1 ≤ bks ∧ bks ≤ 4 := by omega
  have hrr : 0 ≤ rr ∧ rr ≤ 255 := by omega
  have hmn2 : mn ≤ 131072 := by omega
  have hram : ramOk κ mn := by unfold ramOk; omega
  have hk5 : κ = 0 ∨ κ = 1 ∨ κ = 2 ∨ κ = 3 ∨ κ = 5 := Or.inr hkk
  have hr0 := rom_own A t 0 rr 0 ⟨by omega, by omega⟩ (by decide) ⟨by omega, by omega⟩ (by decide) 32768 (by decide)
  (focus
    refine Xg.spec_of Go.Proofs.Tryd.func5 rfl Go.Proofs.Tryd.ntmps5 fun g F => ?_)
  (focus
    refine Xg.at_seq ?_
    refine Xg.at_region ?_
    refine Xg.ops_op (by kernel_rfl) (Xg.opx_pure ((Value.bool false)) rfl (fun _ => by kernel_rfl) ?_)
    refine Xg.ops_nil ?_
    refine Xg.at_seq ?_
    refine Xg.at_draw [2] [(0, [0, 1, 2, 3], Xg.CellIs (((0 : Nat))) (((0 : Nat))) ((Value.slice ta (10 : Nat) tc))), (4, [0, 1, 2, 3, 4], (RdIs (1 : Nat) (Value.slice ta (10 : Nat) tc) (10 : Nat) (List.map (Value.int IntKind.i64) Tl))), (5, [0, 1, 2, 3, 4, 5], (RdIs (1 : Nat) (Value.slice ta (10 : Nat) tc) (10 : Nat) (List.map (Value.int IntKind.i64) Tl)))] (by kernel_rfl) ?_
    refine Xg.any_reads (Value.slice ta (10 : Nat) tc) 0 0 (by kernel_rfl) rfl (by kernel_rfl) (by kernel_rfl) (by kernel_rfl) (by kernel_rfl) rfl rfl (by kernel_rfl) (Xg.cell_now (b := ((0 : Nat))) (off := ((0 : Nat))) 1 rfl (by kernel_rfl)) (fun _ h => Xg.run_load (by kernel_rfl) (by kernel_rfl) h) ?_
    refine Xg.any_pure ((iv w)) 1 (by kernel_rfl) rfl (by kernel_rfl) (by kernel_rfl) (by kernel_rfl) (by kernel_rfl) rfl (fun _ => by kernel_rfl) ?_
    refine Xg.any_each [2] (by kernel_rfl) rfl ⟨?_, trivial⟩
    refine Xg.comes_act rfl (by kernel_rfl) (by kernel_rfl) (Xg.opx_call1' [] [A, TyP te ta tc] (fun _ => by kernel_rfl) (@hpw ) (by kernel_rfl) (by kernel_rfl) (by kernel_rfl) ?_)
    refine Xg.acts (Xg.owes_cell 1 rfl (by kernel_rfl) (Xg.owes_rd 0 hT (by kernel_rfl) (Xg.owes_rd 0 hT (by kernel_rfl) Xg.owes_nil))) ?_
    refine Xg.any_int .i64 (IntKind.wrap .i64 (((5 : Int) + (↑q9 : Int)))) 3 (by kernel_rfl) rfl (by kernel_rfl) (by kernel_rfl) (by kernel_rfl) (by kernel_rfl) rfl (fun _ => by kernel_rfl) (Xg.wrap_i64_in (by omega)) ?_
    refine Xg.any_reads (.pointer (some (Addr.mk (Xg.blk ta) (offA ta + ((5 : Int) + (↑q9 : Int)).toNat) none))) 4 1 (by kernel_rfl) rfl (by kernel_rfl) (by kernel_rfl) (by kernel_rfl) (by kernel_rfl) rfl rfl (by kernel_rfl) (Xg.rd_now 0 hT (by kernel_rfl)) (Xg.run_ix_rd (elem := 3) (kd := .i64) (e := ((5 : Int) + (↑q9 : Int))) 1 (((5 : Int) + (↑q9 : Int)).toNat) (offA ta + ((5 : Int) + (↑q9 : Int)).toNat) (by kernel_rfl) (by kernel_rfl) (by kernel_rfl) (by kernel_rfl) (by omega) (by omega) (by simp only [List.length_map]; omega) (by omega)) ?_
    refine Xg.any_reads (iv (Tl.getD ((5 : Int) + (↑q9 : Int)).toNat (0 : Int))) 5 2 (by kernel_rfl) rfl (by kernel_rfl) (by kernel_rfl) (by kernel_rfl) (by kernel_rfl) rfl rfl (by kernel_rfl) (Xg.rd_now 0 hT (by kernel_rfl)) (Xg.run_load_rd (off0 := (offA ta + ((5 : Int) + (↑q9 : Int)).toNat)) (((5 : Int) + (↑q9 : Int)).toNat) (by kernel_rfl) (by omega) (Xg.get_ints (by omega)) (by kernel_rfl)) ?_
    refine Xg.any_pure ((iv (Tl.getD ((5 : Int) + (↑q9 : Int)).toNat (0 : Int)))) 6 (by kernel_rfl) rfl (by kernel_rfl) (by kernel_rfl) (by kernel_rfl) (by kernel_rfl) rfl (fun _ => by kernel_rfl) ?_
    refine Xg.any_nil (by kernel_rfl) ?_
    refine Xg.at_seq ?_)
  rw [show ((5 : Int) + (q9 : Int)).toNat = 5 + q9 by omega, hTq]
  (focus
    refine Xg.at_region ?_
    refine Xg.ops_op (by kernel_rfl) (Xg.opx_pure ((iv 2)) rfl (fun _ => by kernel_rfl) ?_)
    refine Xg.ops_nil ?_
    refine Xg.at_seq ?_
    refine Xg.at_region ?_
    refine Xg.ops_op (by kernel_rfl) (Xg.opx_pure ((iv 1)) rfl (fun _ => by kernel_rfl) ?_)
    refine Xg.ops_nil ?_
    refine Xg.at_seq ?_
    refine Xg.at_seq ?_
    refine Xg.at_region ?_
    refine Xg.ops_op (by kernel_rfl) (Xg.opx_pure ((iv t)) rfl (fun _ => by kernel_rfl) ?_)
    refine Xg.ops_nil ?_)
  (focus
    refine Xg.at_cut (α := (Int × Nat) × (Nat → Value)) (fun x9 => ((fun x => rr = x.1 ∧ bks = x.2) : (Int × Nat) → Prop) x9.1) (fun x9 => Xg.headT [iv w, iv cd, Value.slice va nv vc, iv at0, iv sh, tu, tu, tu, tu, tu, Value.bool false, iv t, iv 2, iv 1, tu, tu, tu, tu, tu, tu, tu, tu, tu, tu, tu, Value.slice ta (10 : Nat) tc, iv w, iv (↑q9 : Int), iv ((5 : Int) + (↑q9 : Int)), Value.pointer (some (Addr.mk (blk ta) (offA ta + ((5 : Nat) + q9)) none)), iv t, iv t, tu, tu, tu, tu, tu, tu, tu, tu, tu, tu, tu, tu, tu, tu, tu, tu, tu, tu, tu, tu, tu, tu, tu, tu, tu, tu, tu, tu, tu, tu, tu, tu, tu, tu, tu, tu, tu, tu, tu, tu, tu, tu, tu, tu, tu, tu, tu, tu, tu, tu, tu, tu, tu, tu, tu, tu, tu, tu, tu, tu, tu, tu, tu, tu, tu, tu, tu, tu, tu, tu, tu, tu, tu, tu, tu, tu, tu, tu, tu, tu, tu, tu, tu, tu, tu, tu, tu, tu, tu, tu, tu, tu, tu, tu, tu, tu, tu, tu, tu, tu, tu, tu, tu, tu, tu, tu, tu, tu, tu, tu, tu, tu, tu, tu, tu, tu, tu, tu, tu, tu, tu, tu, tu, tu, tu, tu, tu, tu, tu, tu, tu, tu, tu, tu, tu, tu, tu, tu, tu, tu, tu, tu, tu, tu, tu, tu, tu, tu, tu, tu, tu, tu, tu] [32, 33, 34, 35, 36, 37, 38, 39, 40] (((fun x => [(12, .int .i64 x.1), (13, .int .i64 (x.2 : Nat))]) : (Int × Nat) → List (Nat × Go.Value)) x9.1) x9.2) (fun x9 => ((fun x => [A, TyP te ta tc]) : (Int × Nat) → List Go.Sl.HP) x9.1) (fun kk hk => ?_) ?_)
  · (focus
      refine Xg.at_block ?_
      refine Xg.at_seq ?_
      refine Xg.at_region ?_
      refine Xg.ops_op (by kernel_rfl) (Xg.opx_pure (.bool (decide ((t : Int) = ((6 : Int))))) rfl (fun _ => by kernel_rfl) ?_)
      refine Xg.ops_op (by kernel_rfl) (Xg.opx_pure ((Value.bool (decide (t = (6 : Int))))) rfl (fun _ => by kernel_rfl) ?_)
      refine Xg.ops_nil ?_
      refine Xg.at_dec (p := (t = (6 : Int))) (by kernel_rfl) (fun xh1 => ?_) (fun xh1 => ?_)
      refine Xg.at_region ?_
      refine Xg.ops_op (by kernel_rfl) (Xg.opx_pure ((iv 0)) rfl (fun _ => by kernel_rfl) ?_)
      refine Xg.ops_nil ?_
      refine Xg.at_inBlock ?_
      rotate_left
      refine Xg.at_seq ?_
      refine Xg.at_seq ?_
      refine Xg.at_region ?_
      refine Xg.ops_op (by kernel_rfl) (Xg.opx_pure (.bool (decide ((t : Int) = ((3 : Int))))) rfl (fun _ => by kernel_rfl) ?_)
      refine Xg.ops_op (by kernel_rfl) (Xg.opx_pure ((Value.bool (decide (t = (3 : Int))))) rfl (fun _ => by kernel_rfl) ?_)
      refine Xg.ops_nil ?_
      refine Xg.at_dec (p := (t = (3 : Int))) (by kernel_rfl) (fun xh2 => ?_) (fun xh2 => ?_)
      refine Xg.at_skip ?_
      refine Xg.at_true (t := decide ((t = (3 : Int)))) (by kernel_rfl) (decide_eq_true (by omega)) ?_
      refine Xg.at_seq ?_
      refine Xg.at_region ?_
      refine Xg.ops_op (by kernel_rfl) (Xg.opx_pure ((iv cd)) rfl (fun _ => by kernel_rfl) ?_)
      refine Xg.ops_op (by kernel_rfl) (Xg.opx_call1' [] [A, TyP te ta tc] (fun _ => by kernel_rfl) (@hpc ) (by kernel_rfl) (by kernel_rfl) (by kernel_rfl) ?_)
      refine Xg.ops_op (by kernel_rfl) (Xg.opx_pure (.bool (decide (((pickI cd (2 : Int)) : Int) = ((1 : Int))))) rfl (fun _ => by kernel_rfl) ?_)
      refine Xg.ops_nil ?_
      refine Xg.at_dec (p := (pickI cd (2 : Int) = (1 : Int))) (by kernel_rfl) (fun xh3 => ?_) (fun xh3 => ?_)
      refine Xg.at_seq ?_
      refine Xg.at_region ?_
      refine Xg.ops_op (by kernel_rfl) (Xg.opx_pure ((iv 3)) rfl (fun _ => by kernel_rfl) ?_)
      refine Xg.ops_nil ?_
      refine Xg.at_region ?_
      refine Xg.ops_op (by kernel_rfl) (Xg.opx_pure ((iv 4)) rfl (fun _ => by kernel_rfl) ?_)
      refine Xg.ops_nil ?_
      refine Xg.at_inBlock ?_
      rotate_left
      refine Xg.at_skip ?_
      refine Xg.at_inBlock ?_
      rotate_left
      refine Xg.at_seq ?_
      refine Xg.at_region ?_
      refine Xg.ops_op (by kernel_rfl) (Xg.opx_pure (.bool (decide ((t : Int) = ((19 : Int))))) rfl (fun _ => by kernel_rfl) ?_)
      refine Xg.ops_op (by kernel_rfl) (Xg.opx_pure ((Value.bool (decide (t = (19 : Int))))) rfl (fun _ => by kernel_rfl) ?_)
      refine Xg.ops_nil ?_
      refine Xg.at_dec (p := (t = (19 : Int))) (by kernel_rfl) (fun xh3 => ?_) (fun xh3 => ?_)
      refine Xg.at_skip ?_
      refine Xg.at_true (t := decide ((t = (19 : Int)))) (by kernel_rfl) (decide_eq_true (by omega)) ?_
      refine Xg.at_seq ?_
      refine Xg.at_region ?_
      refine Xg.ops_op (by kernel_rfl) (Xg.opx_pure ((iv cd)) rfl (fun _ => by kernel_rfl) ?_)
      refine Xg.ops_op (by kernel_rfl) (Xg.opx_call1' [] [A, TyP te ta tc] (fun _ => by kernel_rfl) (@hpc ) (by kernel_rfl) (by kernel_rfl) (by kernel_rfl) ?_)
      refine Xg.ops_op (by kernel_rfl) (Xg.opx_pure (.bool (decide (((pickI cd (2 : Int)) : Int) = ((1 : Int))))) rfl (fun _ => by kernel_rfl) ?_)
      refine Xg.ops_nil ?_
      refine Xg.at_dec (p := (pickI cd (2 : Int) = (1 : Int))) (by kernel_rfl) (fun xh4 => ?_) (fun xh4 => ?_)
      refine Xg.at_seq ?_
      refine Xg.at_region ?_
      refine Xg.ops_op (by kernel_rfl) (Xg.opx_pure ((iv 3)) rfl (fun _ => by kernel_rfl) ?_)
      refine Xg.ops_nil ?_
      refine Xg.at_region ?_
      refine Xg.ops_op (by kernel_rfl) (Xg.opx_pure ((iv 4)) rfl (fun _ => by kernel_rfl) ?_)
      refine Xg.ops_nil ?_
      refine Xg.at_inBlock ?_
      rotate_left
      refine Xg.at_skip ?_
      refine Xg.at_inBlock ?_
      rotate_left
      refine Xg.at_region ?_
      refine Xg.ops_op (by kernel_rfl) (Xg.opx_pure (.bool (decide ((t : Int) = ((27 : Int))))) rfl (fun _ => by kernel_rfl) ?_)
      refine Xg.ops_op (by kernel_rfl) (Xg.opx_pure ((Value.bool (decide (t = (27 : Int))))) rfl (fun _ => by kernel_rfl) ?_)
      refine Xg.ops_nil ?_
      refine Xg.at_true (t := decide ((t = (27 : Int)))) (by kernel_rfl) (decide_eq_true (by omega)) ?_
      refine Xg.at_seq ?_
      refine Xg.at_region ?_
      refine Xg.ops_op (by kernel_rfl) (Xg.opx_pure ((iv cd)) rfl (fun _ => by kernel_rfl) ?_)
      refine Xg.ops_op (by kernel_rfl) (Xg.opx_call1' [] [A, TyP te ta tc] (fun _ => by kernel_rfl) (@hpc ) (by kernel_rfl) (by kernel_rfl) (by kernel_rfl) ?_)
      refine Xg.ops_op (by kernel_rfl) (Xg.opx_pure (.bool (decide (((pickI cd (2 : Int)) : Int) = ((1 : Int))))) rfl (fun _ => by kernel_rfl) ?_)
      refine Xg.ops_nil ?_
      refine Xg.at_dec (p := (pickI cd (2 : Int) = (1 : Int))) (by kernel_rfl) (fun xh4 => ?_) (fun xh4 => ?_)
      refine Xg.at_seq ?_
      refine Xg.at_region ?_
      refine Xg.ops_op (by kernel_rfl) (Xg.opx_pure ((iv 3)) rfl (fun _ => by kernel_rfl) ?_)
      refine Xg.ops_nil ?_
      refine Xg.at_region ?_
      refine Xg.ops_op (by kernel_rfl) (Xg.opx_pure ((iv 4)) rfl (fun _ => by kernel_rfl) ?_)
      refine Xg.ops_nil ?_
      refine Xg.at_inBlock ?_
      rotate_left
      refine Xg.at_skip ?_
      refine Xg.at_inBlock ?_)
    (focus
      refine Xg.at_keep [0, 1] (by kernel_rfl) ?_
      refine Xg.At.same (by kernel_rfl) ?_ (hk ((((2 : Int), (1 : Nat))), fun j9 => ([iv w, iv cd, Value.slice va nv vc, iv at0, iv sh, tu, tu, tu, tu, tu, Value.bool false, iv t, iv 2, iv 1, tu, tu, tu, tu, tu, tu, tu, tu, tu, tu, tu, Value.slice ta (10 : Nat) tc, iv w, iv (↑q9 : Int), iv ((5 : Int) + (↑q9 : Int)), Value.pointer (some (Addr.mk (blk ta) (offA ta + ((5 : Nat) + q9)) none)), iv t, iv t, Value.bool (decide (t = (6 : Int))), Value.bool (decide (t = (6 : Int))), Value.bool (decide (t = (27 : Int))), Value.bool (decide (t = (3 : Int))), Value.bool (decide (t = (19 : Int))), Value.bool (decide (t = (27 : Int))), iv cd, iv (pickI cd (2 : Int)), Value.bool (decide (pickI cd (2 : Int) = (1 : Int))), tu, tu, tu, tu, tu, tu, tu, tu, tu, tu, tu, tu, tu, tu, tu, tu, tu, tu, tu, tu, tu, tu, tu, tu, tu, tu, tu, tu, tu, tu, tu, tu, tu, tu, tu, tu, tu, tu, tu, tu, tu, tu, tu, tu, tu, tu, tu, tu, tu, tu, tu, tu, tu, tu, tu, tu, tu, tu, tu, tu, tu, tu, tu, tu, tu, tu, tu, tu, tu, tu, tu, tu, tu, tu, tu, tu, tu, tu, tu, tu, tu, tu, tu, tu, tu, tu, tu, tu, tu, tu, tu, tu, tu, tu, tu, tu, tu, tu, tu, tu, tu, tu, tu, tu, tu, tu, tu, tu, tu, tu, tu, tu, tu, tu, tu, tu, tu, tu, tu, tu, tu, tu, tu, tu, tu, tu, tu, tu, tu, tu, tu, tu, tu, tu, tu, tu, tu, tu, tu, tu, tu, tu, tu, tu] : List Value).getD j9 undef) ?_))
    · rfl
    · exact ⟨by show rr = (2 : Int); omega, by show bks = (1 : Nat); omega⟩
    (focus
      refine Xg.at_keep [0, 1] (by kernel_rfl) ?_
      refine Xg.At.same (by kernel_rfl) ?_ (hk ((((0 : Int), (1 : Nat))), fun j9 => ([iv w, iv cd, Value.slice va nv vc, iv at0, iv sh, tu, tu, tu, tu, tu, Value.bool false, iv t, iv 0, iv 1, tu, tu, tu, tu, tu, tu, tu, tu, tu, tu, tu, Value.slice ta (10 : Nat) tc, iv w, iv (↑q9 : Int), iv ((5 : Int) + (↑q9 : Int)), Value.pointer (some (Addr.mk (blk ta) (offA ta + ((5 : Nat) + q9)) none)), iv t, iv t, Value.bool (decide (t = (6 : Int))), Value.bool (decide (t = (6 : Int))), tu, tu, tu, tu, tu, tu, tu, tu, tu, tu, tu, tu, tu, tu, tu, tu, tu, tu, tu, tu, tu, tu, tu, tu, tu, tu, tu, tu, tu, tu, tu, tu, tu, tu, tu, tu, tu, tu, tu, tu, tu, tu, tu, tu, tu, tu, tu, tu, tu, tu, tu, tu, tu, tu, tu, tu, tu, tu, tu, tu, tu, tu, tu, tu, tu, tu, tu, tu, tu, tu, tu, tu, tu, tu, tu, tu, tu, tu, tu, tu, tu, tu, tu, tu, tu, tu, tu, tu, tu, tu, tu, tu, tu, tu, tu, tu, tu, tu, tu, tu, tu, tu, tu, tu, tu, tu, tu, tu, tu, tu, tu, tu, tu, tu, tu, tu, tu, tu, tu, tu, tu, tu, tu, tu, tu, tu, tu, tu, tu, tu, tu, tu, tu, tu, tu, tu, tu, tu, tu, tu, tu, tu, tu, tu, tu, tu, tu, tu, tu, tu, tu] : List Value).getD j9 undef) ?_))
    · rfl
    · exact ⟨by show rr = (0 : Int); omega, by show bks = (1 : Nat); omega⟩
    (focus
      refine Xg.at_keep [0, 1] (by kernel_rfl) ?_
      refine Xg.At.same (by kernel_rfl) ?_ (hk ((((3 : Int), (4 : Nat))), fun j9 => ([iv w, iv cd, Value.slice va nv vc, iv at0, iv sh, tu, tu, tu, tu, tu, Value.bool false, iv t, iv 3, iv 4, tu, tu, tu, tu, tu, tu, tu, tu, tu, tu, tu, Value.slice ta (10 : Nat) tc, iv w, iv (↑q9 : Int), iv ((5 : Int) + (↑q9 : Int)), Value.pointer (some (Addr.mk (blk ta) (offA ta + ((5 : Nat) + q9)) none)), iv t, iv t, Value.bool (decide (t = (6 : Int))), Value.bool (decide (t = (6 : Int))), Value.bool (decide (t = (3 : Int))), Value.bool (decide (t = (3 : Int))), tu, tu, iv cd, iv (pickI cd (2 : Int)), Value.bool (decide (pickI cd (2 : Int) = (1 : Int))), tu, tu, tu, tu, tu, tu, tu, tu, tu, tu, tu, tu, tu, tu, tu, tu, tu, tu, tu, tu, tu, tu, tu, tu, tu, tu, tu, tu, tu, tu, tu, tu, tu, tu, tu, tu, tu, tu, tu, tu, tu, tu, tu, tu, tu, tu, tu, tu, tu, tu, tu, tu, tu, tu, tu, tu, tu, tu, tu, tu, tu, tu, tu, tu, tu, tu, tu, tu, tu, tu, tu, tu, tu, tu, tu, tu, tu, tu, tu, tu, tu, tu, tu, tu, tu, tu, tu, tu, tu, tu, tu, tu, tu, tu, tu, tu, tu, tu, tu, tu, tu, tu, tu, tu, tu, tu, tu, tu, tu, tu, tu, tu, tu, tu, tu, tu, tu, tu, tu, tu, tu, tu, tu, tu, tu, tu, tu, tu, tu, tu, tu, tu, tu, tu, tu, tu, tu, tu, tu, tu, tu, tu, tu, tu] : List Value).getD j9 undef) ?_))
    · rfl
    · exact ⟨by show rr = (3 : Int); omega, by show bks = (4 : Nat); omega⟩
    (focus
      refine Xg.at_keep [0, 1] (by kernel_rfl) ?_
      refine Xg.At.same (by kernel_rfl) ?_ (hk ((((2 : Int), (1 : Nat))), fun j9 => ([iv w, iv cd, Value.slice va nv vc, iv at0, iv sh, tu, tu, tu, tu, tu, Value.bool false, iv t, iv 2, iv 1, tu, tu, tu, tu, tu, tu, tu, tu, tu, tu, tu, Value.slice ta (10 : Nat) tc, iv w, iv (↑q9 : Int), iv ((5 : Int) + (↑q9 : Int)), Value.pointer (some (Addr.mk (blk ta) (offA ta + ((5 : Nat) + q9)) none)), iv t, iv t, Value.bool (decide (t = (6 : Int))), Value.bool (decide (t = (6 : Int))), Value.bool (decide (t = (3 : Int))), Value.bool (decide (t = (3 : Int))), tu, tu, iv cd, iv (pickI cd (2 : Int)), Value.bool (decide (pickI cd (2 : Int) = (1 : Int))), tu, tu, tu, tu, tu, tu, tu, tu, tu, tu, tu, tu, tu, tu, tu, tu, tu, tu, tu, tu, tu, tu, tu, tu, tu, tu, tu, tu, tu, tu, tu, tu, tu, tu, tu, tu, tu, tu, tu, tu, tu, tu, tu, tu, tu, tu, tu, tu, tu, tu, tu, tu, tu, tu, tu, tu, tu, tu, tu, tu, tu, tu, tu, tu, tu, tu, tu, tu, tu, tu, tu, tu, tu, tu, tu, tu, tu, tu, tu, tu, tu, tu, tu, tu, tu, tu, tu, tu, tu, tu, tu, tu, tu, tu, tu, tu, tu, tu, tu, tu, tu, tu, tu, tu, tu, tu, tu, tu, tu, tu, tu, tu, tu, tu, tu, tu, tu, tu, tu, tu, tu, tu, tu, tu, tu, tu, tu, tu, tu, tu, tu, tu, tu, tu, tu, tu, tu, tu, tu, tu, tu, tu, tu, tu] : List Value).getD j9 undef) ?_))
    · rfl
    · exact ⟨by show rr = (2 : Int); omega, by show bks = (1 : Nat); omega⟩
    (focus
      refine Xg.at_keep [0, 1] (by kernel_rfl) ?_
      refine Xg.At.same (by kernel_rfl) ?_ (hk ((((3 : Int), (4 : Nat))), fun j9 => ([iv w, iv cd, Value.slice va nv vc, iv at0, iv sh, tu, tu, tu, tu, tu, Value.bool false, iv t, iv 3, iv 4, tu, tu, tu, tu, tu, tu, tu, tu, tu, tu, tu, Value.slice ta (10 : Nat) tc, iv w, iv (↑q9 : Int), iv ((5 : Int) + (↑q9 : Int)), Value.pointer (some (Addr.mk (blk ta) (offA ta + ((5 : Nat) + q9)) none)), iv t, iv t, Value.bool (decide (t = (6 : Int))), Value.bool (decide (t = (6 : Int))), Value.bool (decide (t = (19 : Int))), Value.bool (decide (t = (3 : Int))), Value.bool (decide (t = (19 : Int))), tu, iv cd, iv (pickI cd (2 : Int)), Value.bool (decide (pickI cd (2 : Int) = (1 : Int))), tu, tu, tu, tu, tu, tu, tu, tu, tu, tu, tu, tu, tu, tu, tu, tu, tu, tu, tu, tu, tu, tu, tu, tu, tu, tu, tu, tu, tu, tu, tu, tu, tu, tu, tu, tu, tu, tu, tu, tu, tu, tu, tu, tu, tu, tu, tu, tu, tu, tu, tu, tu, tu, tu, tu, tu, tu, tu, tu, tu, tu, tu, tu, tu, tu, tu, tu, tu, tu, tu, tu, tu, tu, tu, tu, tu, tu, tu, tu, tu, tu, tu, tu, tu, tu, tu, tu, tu, tu, tu, tu, tu, tu, tu, tu, tu, tu, tu, tu, tu, tu, tu, tu, tu, tu, tu, tu, tu, tu, tu, tu, tu, tu, tu, tu, tu, tu, tu, tu, tu, tu, tu, tu, tu, tu, tu, tu, tu, tu, tu, tu, tu, tu, tu, tu, tu, tu, tu, tu, tu, tu, tu, tu, tu] : List Value).getD j9 undef) ?_))
    · rfl
    · exact ⟨by show rr = (3 : Int); omega, by show bks = (4 : Nat); omega⟩
    (focus
      refine Xg.at_keep [0, 1] (by kernel_rfl) ?_
      refine Xg.At.same (by kernel_rfl) ?_ (hk ((((2 : Int), (1 : Nat))), fun j9 => ([iv w, iv cd, Value.slice va nv vc, iv at0, iv sh, tu, tu, tu, tu, tu, Value.bool false, iv t, iv 2, iv 1, tu, tu, tu, tu, tu, tu, tu, tu, tu, tu, tu, Value.slice ta (10 : Nat) tc, iv w, iv (↑q9 : Int), iv ((5 : Int) + (↑q9 : Int)), Value.pointer (some (Addr.mk (blk ta) (offA ta + ((5 : Nat) + q9)) none)), iv t, iv t, Value.bool (decide (t = (6 : Int))), Value.bool (decide (t = (6 : Int))), Value.bool (decide (t = (19 : Int))), Value.bool (decide (t = (3 : Int))), Value.bool (decide (t = (19 : Int))), tu, iv cd, iv (pickI cd (2 : Int)), Value.bool (decide (pickI cd (2 : Int) = (1 : Int))), tu, tu, tu, tu, tu, tu, tu, tu, tu, tu, tu, tu, tu, tu, tu, tu, tu, tu, tu, tu, tu, tu, tu, tu, tu, tu, tu, tu, tu, tu, tu, tu, tu, tu, tu, tu, tu, tu, tu, tu, tu, tu, tu, tu, tu, tu, tu, tu, tu, tu, tu, tu, tu, tu, tu, tu, tu, tu, tu, tu, tu, tu, tu, tu, tu, tu, tu, tu, tu, tu, tu, tu, tu, tu, tu, tu, tu, tu, tu, tu, tu, tu, tu, tu, tu, tu, tu, tu, tu, tu, tu, tu, tu, tu, tu, tu, tu, tu, tu, tu, tu, tu, tu, tu, tu, tu, tu, tu, tu, tu, tu, tu, tu, tu, tu, tu, tu, tu, tu, tu, tu, tu, tu, tu, tu, tu, tu, tu, tu, tu, tu, tu, tu, tu, tu, tu, tu, tu, tu, tu, tu, tu, tu, tu] : List Value).getD j9 undef) ?_))
    · rfl
    · exact ⟨by show rr = (2 : Int); omega, by show bks = (1 : Nat); omega⟩
    (focus
      refine Xg.at_keep [0, 1] (by kernel_rfl) ?_
      refine Xg.At.same (by kernel_rfl) ?_ (hk ((((3 : Int), (4 : Nat))), fun j9 => ([iv w, iv cd, Value.slice va nv vc, iv at0, iv sh, tu, tu, tu, tu, tu, Value.bool false, iv t, iv 3, iv 4, tu, tu, tu, tu, tu, tu, tu, tu, tu, tu, tu, Value.slice ta (10 : Nat) tc, iv w, iv (↑q9 : Int), iv ((5 : Int) + (↑q9 : Int)), Value.pointer (some (Addr.mk (blk ta) (offA ta + ((5 : Nat) + q9)) none)), iv t, iv t, Value.bool (decide (t = (6 : Int))), Value.bool (decide (t = (6 : Int))), Value.bool (decide (t = (27 : Int))), Value.bool (decide (t = (3 : Int))), Value.bool (decide (t = (19 : Int))), Value.bool (decide (t = (27 : Int))), iv cd, iv (pickI cd (2 : Int)), Value.bool (decide (pickI cd (2 : Int) = (1 : Int))), tu, tu, tu, tu, tu, tu, tu, tu, tu, tu, tu, tu, tu, tu, tu, tu, tu, tu, tu, tu, tu, tu, tu, tu, tu, tu, tu, tu, tu, tu, tu, tu, tu, tu, tu, tu, tu, tu, tu, tu, tu, tu, tu, tu, tu, tu, tu, tu, tu, tu, tu, tu, tu, tu, tu, tu, tu, tu, tu, tu, tu, tu, tu, tu, tu, tu, tu, tu, tu, tu, tu, tu, tu, tu, tu, tu, tu, tu, tu, tu, tu, tu, tu, tu, tu, tu, tu, tu, tu, tu, tu, tu, tu, tu, tu, tu, tu, tu, tu, tu, tu, tu, tu, tu, tu, tu, tu, tu, tu, tu, tu, tu, tu, tu, tu, tu, tu, tu, tu, tu, tu, tu, tu, tu, tu, tu, tu, tu, tu, tu, tu, tu, tu, tu, tu, tu, tu, tu, tu, tu, tu, tu, tu, tu] : List Value).getD j9 undef) ?_))
    · rfl
    · exact ⟨by show rr = (3 : Int); omega, by show bks = (4 : Nat); omega⟩
  rintro ⟨⟨c8, b8⟩, J9⟩ hc8
  obtain ⟨hc8, hb8⟩ := hc8
  dsimp only at hc8 hb8
  subst hc8 hb8
  (focus
    refine Xg.At.same (T' := [iv w, iv cd, Value.slice va nv vc, iv at0, iv sh, tu, tu, tu, tu, tu, Value.bool false, iv t, iv rr, iv (↑bks : Int), tu, tu, tu, tu, tu, tu, tu, tu, tu, tu, tu, Value.slice ta (10 : Nat) tc, iv w, iv (↑q9 : Int), iv ((5 : Int) + (↑q9 : Int)), Value.pointer (some (Addr.mk (blk ta) (offA ta + ((5 : Nat) + q9)) none)), iv t, iv t, J9 32, J9 33, J9 34, J9 35, J9 36, J9 37, J9 38, J9 39, J9 40, tu, tu, tu, tu, tu, tu, tu, tu, tu, tu, tu, tu, tu, tu, tu, tu, tu, tu, tu, tu, tu, tu, tu, tu, tu, tu, tu, tu, tu, tu, tu, tu, tu, tu, tu, tu, tu, tu, tu, tu, tu, tu, tu, tu, tu, tu, tu, tu, tu, tu, tu, tu, tu, tu, tu, tu, tu, tu, tu, tu, tu, tu, tu, tu, tu, tu, tu, tu, tu, tu, tu, tu, tu, tu, tu, tu, tu, tu, tu, tu, tu, tu, tu, tu, tu, tu, tu, tu, tu, tu, tu, tu, tu, tu, tu, tu, tu, tu, tu, tu, tu, tu, tu, tu, tu, tu, tu, tu, tu, tu, tu, tu, tu, tu, tu, tu, tu, tu, tu, tu, tu, tu, tu, tu, tu, tu, tu, tu, tu, tu, tu, tu, tu, tu, tu, tu, tu, tu, tu, tu, tu, tu, tu, tu]) (L' := [A, TyP te ta tc]) (by kernel_rfl) rfl ?_)
  (focus
    refine Xg.at_seq ?_
    refine Xg.at_region ?_
    refine Xg.ops_op (by kernel_rfl) (Xg.opx_pure ((iv t)) rfl (fun _ => by kernel_rfl) ?_)
    refine Xg.ops_op (by kernel_rfl) (Xg.opx_pure ((iv rr)) rfl (fun _ => by kernel_rfl) ?_)
    refine Xg.ops_op (by kernel_rfl) (Xg.opx_pure ((Value.agg #[iv t, iv 0, iv rr, iv 0, iv 0, Value.slice none (0 : Nat) (0 : Nat), Value.slice none (0 : Nat) (0 : Nat), Value.bool false])) rfl (fun _ => by kernel_rfl) ?_)
    refine Xg.ops_op (by kernel_rfl) (Xg.opx_callE' [0] (fun xx1 => [bts xx1.fst (32768 : Nat) (32768 : Nat) xx1.snd, A, TyP te ta tc]) (fun _ => by kernel_rfl) (@hr0 ) (by kernel_rfl) (by kernel_rfl) (by kernel_rfl) fun xx1 xh1 => ?_)
    try dsimp only at xh1)
  refine Xg.ops_some 0 rfl (by decide) fun hs1 hs2 => ?_
  obtain ⟨la, R⟩ := xx1
  dsimp only at xh1 hs1 ⊢
  have hl := xh1.l
  have hck := chk_box (k := kd) xh1 ht (by decide) hrr hkd hkb (by decide) hcl
  obtain ⟨h, hh⟩ : ∃ h, hdX t 0 rr 0 kd = h := ⟨_, rfl⟩
  have hmp : h.mp = (κ : Int) := by rw [← hh]; exact hkm
  have hbk2 : h.bk = 2 := by rw [← hh]; rfl
  have hrm : h.rm = (mn : Int) := by rw [← hh]; exact hmn
  rw [hh] at hck
  have hnw := newK_d (bts la 32768 32768 R) la 32768 32768 R h κ mn hl (Nat.le_refl _) (by decide) hs1 xh1.b Xg.reads_own hck (by decide) hk5 hmp hrm hmn2
  (focus
    refine Xg.ops_op (by kernel_rfl) (Xg.opx_callE' [0] (fun xx1 => [CTP κ xx1 h rg0 R (List.replicate mn (0 : Int)), bts la (32768 : Nat) (32768 : Nat) R, A, TyP te ta tc]) (fun _ => by kernel_rfl) (@hnw ) (by kernel_rfl) (by kernel_rfl) (by kernel_rfl) fun xx1 xh2 => ?_)
    try dsimp only at xh2
    refine Xg.ops_op (by kernel_rfl) (Xg.opx_pure ((Value.tuple #[pv xx1.p 0, iv 0])) rfl (fun _ => by kernel_rfl) ?_)
    refine Xg.ops_op (by kernel_rfl) (Xg.opx_pure ((pv xx1.p 0)) rfl (fun _ => by kernel_rfl) ?_)
    refine Xg.ops_op (by kernel_rfl) (Xg.opx_pure ((iv 0)) rfl (fun _ => by kernel_rfl) ?_)
    refine Xg.ops_op (by kernel_rfl) (Xg.opx_pure ((pv xx1.p 0)) rfl (fun _ => by kernel_rfl) ?_)
    refine Xg.ops_op (by kernel_rfl) (Xg.opx_pure ((iv 0)) rfl (fun _ => by kernel_rfl) ?_)
    refine Xg.ops_nil ?_
    refine Xg.at_seq ?_
    refine Xg.at_seq ?_
    refine Xg.at_region ?_
    refine Xg.ops_op (by kernel_rfl) (Xg.opx_pure ((pv xx1.p 0)) rfl (fun _ => by kernel_rfl) ?_)
    refine Xg.ops_op (by kernel_rfl) (Xg.opx_pure ((Value.bool false)) rfl (fun _ => by kernel_rfl) ?_)
    refine Xg.ops_op (by kernel_rfl) (Xg.opx_pure ((Value.bool false)) rfl (fun _ => by kernel_rfl) ?_)
    refine Xg.ops_op (by kernel_rfl) (Xg.opx_pure ((iv 0)) rfl (fun _ => by kernel_rfl) ?_)
    refine Xg.ops_op (by kernel_rfl) (Xg.opx_pure ((Value.bool false)) rfl (fun _ => by kernel_rfl) ?_)
    refine Xg.ops_op (by kernel_rfl) (Xg.opx_pure ((Value.bool false)) rfl (fun _ => by kernel_rfl) ?_)
    refine Xg.ops_nil ?_
    refine Xg.at_false (t := false) (by kernel_rfl) rfl ?_
    refine Xg.at_skip ?_
    refine Xg.at_seq ?_)
  have hrc : 32768 ≤ xx1.rc := by assumption
  obtain ⟨ct, hx⟩ : ∃ ct, xx1 = ct := ⟨_, rfl⟩
  rw [hx] at hrc ⊢
  have hrep : (List.replicate mn (0 : Int)).length = mn := List.length_replicate
  have hB0 := isB_rep mn
  have hz0 : ∀ i, i < mn → (List.replicate mn (0 : Int)).getD i 0 = 0 := fun i hi => by simp [List.getD_eq_getElem?_getD, List.getElem?_replicate, hi]
  obtain ⟨M0, hM0⟩ : ∃ M0, List.replicate mn (0 : Int) = M0 := ⟨_, rfl⟩
  rw [hM0] at hrep hB0 hz0 ⊢
  have okX : ∀ (r : Rg) (M : List Int), r.Ok → M.length = mn → isB M → CtOk κ ct h r R M := fun r M h1 h2 h3 => ⟨hk5, hmp, h1, by rw [hbk2]; decide, by rw [hl, hbk2]; decide, by rw [hl]; exact hrc, h3, by rw [h2]; exact hram⟩
  have hrok : rg0.Ok := ⟨by decide, by decide, by decide, by decide, by decide⟩
  have ok0 := okX rg0 M0 hrok hrep hB0
  have hwo := writeNK_d ok0 (40960 + (o : Int)) 7 ⟨by omega, by omega⟩ (Or.inr (by omega)) (by decide) (cell_off0 hkk _ _)
  have hro := readK_d ok0 (40960 + (o : Int)) ⟨by omega, by omega⟩
  rw [read_off κ _ h.bk R M0 _ (by omega) (cell_off0 hkk _ _)] at hro
  have hwa := writeRK_d ok0 0 10 (by decide) (by decide)
  have ok1 : CtOk κ ct h (regK κ rg0 0 10) R M0 := okX _ M0 (by rcases hkk with e | e | e | e <;> subst e <;> exact ⟨by decide, by decide, by decide, by decide, by decide⟩) hrep hB0
  have hwb := writeRK_d ok1 24576 1 (by decide) (by decide)
  rw [reg_open hkk] at hwb
  (focus
    refine Xg.at_region ?_
    refine Xg.ops_op (by kernel_rfl) (Xg.opx_pure ((iv t)) rfl (fun _ => by kernel_rfl) ?_)
    refine Xg.ops_op (by kernel_rfl) (Xg.opx_pure (.bool (!decide ((t : Int) = ((9 : Int))))) rfl (fun _ => by kernel_rfl) ?_)
    refine Xg.ops_op (by kernel_rfl) (Xg.opx_pure ((Value.bool !decide (t = (9 : Int)))) rfl (fun _ => by kernel_rfl) ?_)
    refine Xg.ops_nil ?_
    refine Xg.at_seq ?_
    refine Xg.at_region ?_
    refine Xg.ops_op (by kernel_rfl) (Xg.opx_pure ((iv at0)) rfl (fun _ => by kernel_rfl) ?_)
    refine Xg.ops_op (by kernel_rfl) (Xg.opx_call1' [] [CTP κ ct h rg0 R M0, bts la (32768 : Nat) (32768 : Nat) R, A, TyP te ta tc] (fun _ => by kernel_rfl) (@hpa ) (by kernel_rfl) (by kernel_rfl) (by kernel_rfl) ?_)
    refine Xg.ops_op (by kernel_rfl) (Xg.opx_int .i64 (IntKind.wrap .i64 (((40960 : Int) + (↑o : Int)))) rfl (fun _ => by kernel_rfl) (Xg.wrap_i64_in (by omega)) ?_)
    refine Xg.ops_op (by kernel_rfl) (Xg.opx_pure ((iv ((40960 : Int) + (↑o : Int)))) rfl (fun _ => by kernel_rfl) ?_)
    refine Xg.ops_nil ?_
    refine Xg.at_seq ?_
    refine Xg.at_seq ?_
    refine Xg.at_region ?_
    refine Xg.ops_op (by kernel_rfl) (Xg.opx_pure ((Value.bool !decide (t = (9 : Int)))) rfl (fun _ => by kernel_rfl) ?_)
    refine Xg.ops_nil ?_
    refine Xg.at_true (t := !decide ((t = (9 : Int)))) (by kernel_rfl) (by rw [decide_eq_false (by omega)]; rfl) ?_
    refine Xg.at_seq ?_
    refine Xg.at_region ?_
    refine Xg.ops_op (by kernel_rfl) (Xg.opx_pure ((pv ct.p 0)) rfl (fun _ => by kernel_rfl) ?_)
    refine Xg.ops_op (by kernel_rfl) (Xg.opx_pure ((iv ((40960 : Int) + (↑o : Int)))) rfl (fun _ => by kernel_rfl) ?_)
    refine Xg.ops_op (by kernel_rfl) (Xg.opx_call1' [0] [CTP κ ct h rg0 R M0, bts la (32768 : Nat) (32768 : Nat) R, A, TyP te ta tc] (fun _ => by kernel_rfl) (@hwo ) (by kernel_rfl) (by kernel_rfl) (by kernel_rfl) ?_)
    refine Xg.ops_nil ?_
    refine Xg.at_seq ?_
    refine Xg.at_seq ?_
    refine Xg.at_region ?_
    refine Xg.ops_op (by kernel_rfl) (Xg.opx_pure ((pv ct.p 0)) rfl (fun _ => by kernel_rfl) ?_)
    refine Xg.ops_op (by kernel_rfl) (Xg.opx_pure ((iv ((40960 : Int) + (↑o : Int)))) rfl (fun _ => by kernel_rfl) ?_)
    refine Xg.ops_op (by kernel_rfl) (Xg.opx_call1' [0] [CTP κ ct h rg0 R M0, bts la (32768 : Nat) (32768 : Nat) R, A, TyP te ta tc] (fun _ => by kernel_rfl) (@hro ) (by kernel_rfl) (by kernel_rfl) (by kernel_rfl) ?_)
    refine Xg.ops_op (by kernel_rfl) (Xg.opx_pure ((Value.bool false)) rfl (fun _ => by kernel_rfl) ?_)
    refine Xg.ops_nil ?_
    refine Xg.at_false (t := false) (by kernel_rfl) rfl ?_
    refine Xg.at_skip ?_
    refine Xg.at_seq ?_
    refine Xg.at_region ?_
    refine Xg.ops_op (by kernel_rfl) (Xg.opx_pure ((pv ct.p 0)) rfl (fun _ => by kernel_rfl) ?_)
    refine Xg.ops_op (by kernel_rfl) (Xg.opx_call1' [0] [CTP κ ct h (regK κ rg0 (0 : Int) (10 : Int)) R M0, bts la (32768 : Nat) (32768 : Nat) R, A, TyP te ta tc] (fun _ => by kernel_rfl) (@hwa ) (by kernel_rfl) (by kernel_rfl) (by kernel_rfl) ?_)
    refine Xg.ops_nil ?_
    refine Xg.at_region ?_
    refine Xg.ops_op (by kernel_rfl) (Xg.opx_pure ((pv ct.p 0)) rfl (fun _ => by kernel_rfl) ?_)
    refine Xg.ops_op (by kernel_rfl) (Xg.opx_call1' [0] [CTP κ ct h (rI κ (0 : Nat)) R M0, bts la (32768 : Nat) (32768 : Nat) R, A, TyP te ta tc] (fun _ => by kernel_rfl) (@hwb ) (by kernel_rfl) (by kernel_rfl) (by kernel_rfl) ?_)
    refine Xg.ops_nil ?_
    refine Xg.at_seq ?_
    refine Xg.at_region ?_
    refine Xg.ops_op (by kernel_rfl) (Xg.opx_pure ((uv 0)) rfl (fun _ => by kernel_rfl) ?_)
    refine Xg.ops_nil ?_
    refine Xg.at_seq ?_
    refine Xg.at_seq ?_
    refine Xg.at_region ?_
    refine Xg.ops_op (by kernel_rfl) (Xg.opx_pure ((iv t)) rfl (fun _ => by kernel_rfl) ?_)
    refine Xg.ops_op (by kernel_rfl) (Xg.opx_pure (.bool (decide ((t : Int) = ((6 : Int))))) rfl (fun _ => by kernel_rfl) ?_)
    refine Xg.ops_nil ?_)
  (focus
    refine Xg.at_cut (α := (Int) × (Nat → Value)) (fun x9 => ((fun g => hgK κ = g) : (Int) → Prop) x9.1) (fun x9 => Xg.headT [iv w, iv cd, Value.slice va nv vc, iv at0, iv sh, tu, tu, tu, tu, tu, Value.bool false, iv t, iv rr, iv (↑bks : Int), pv ct.p 0, iv 0, Value.bool !decide (t = (9 : Int)), iv ((40960 : Int) + (↑o : Int)), uv 0, tu, tu, tu, tu, tu, tu, Value.slice ta (10 : Nat) tc, iv w, iv (↑q9 : Int), iv ((5 : Int) + (↑q9 : Int)), Value.pointer (some (Addr.mk (blk ta) (offA ta + ((5 : Nat) + q9)) none)), iv t, iv t, J9 (32 : Nat), J9 (33 : Nat), J9 (34 : Nat), J9 (35 : Nat), J9 (36 : Nat), J9 (37 : Nat), J9 (38 : Nat), J9 (39 : Nat), J9 (40 : Nat), Value.tuple #[pv ct.p 0, iv 0], iv t, iv rr, Value.agg #[iv t, iv 0, iv rr, iv 0, iv 0, Value.slice none (0 : Nat) (0 : Nat), Value.slice none (0 : Nat) (0 : Nat), Value.bool false], Value.slice la (32768 : Nat) (32768 : Nat), Value.tuple #[pv ct.p 0, iv 0], pv ct.p 0, iv 0, pv ct.p 0, Value.bool false, Value.bool false, iv 0, Value.bool false, Value.bool false, iv t, Value.bool !decide (t = (9 : Int)), iv at0, iv (↑o : Int), iv ((40960 : Int) + (↑o : Int)), Value.bool !decide (t = (9 : Int)), pv ct.p 0, iv ((40960 : Int) + (↑o : Int)), tu, pv ct.p 0, iv ((40960 : Int) + (↑o : Int)), uv 255, Value.bool false, pv ct.p 0, tu, pv ct.p 0, tu, iv t, Value.bool (decide (t = (6 : Int))), tu, tu, tu, tu, tu, tu, tu, tu, tu, tu, tu, tu, tu, tu, tu, tu, tu, tu, tu, tu, tu, tu, tu, tu, tu, tu, tu, tu, tu, tu, tu, tu, tu, tu, tu, tu, tu, tu, tu, tu, tu, tu, tu, tu, tu, tu, tu, tu, tu, tu, tu, tu, tu, tu, tu, tu, tu, tu, tu, tu, tu, tu, tu, tu, tu, tu, tu, tu, tu, tu, tu, tu, tu, tu, tu, tu, tu, tu, tu, tu, tu, tu, tu, tu, tu, tu, tu, tu, tu, tu, tu, tu, tu, tu, tu, tu, tu, tu, tu, tu, tu, tu, tu, tu, tu, tu, tu, tu, tu, tu, tu] [] (((fun g => [(18, .int .u8 g)]) : (Int) → List (Nat × Go.Value)) x9.1) x9.2) (fun x9 => ((fun g => [CTP κ ct h (rI κ 0) R M0, A, TyP te ta tc]) : (Int) → List Go.Sl.HP) x9.1) (fun kk hk => ?_) ?_)
  · by_cases ht6 : t = 6
    · (focus
        refine Xg.at_true (t := decide ((t = (6 : Int)))) (by kernel_rfl) (decide_eq_true (by omega)) ?_
        refine Xg.at_region ?_
        refine Xg.ops_op (by kernel_rfl) (Xg.opx_pure ((uv 240)) rfl (fun _ => by kernel_rfl) ?_)
        refine Xg.ops_nil ?_)
      (focus
        refine Xg.at_keep [0, 2, 3] (by kernel_rfl) ?_
        refine Xg.At.same (by kernel_rfl) ?_ (hk (((240 : Int)), fun j9 => ([iv w, iv cd, Value.slice va nv vc, iv at0, iv sh, tu, tu, tu, tu, tu, Value.bool false, iv t, iv rr, iv (↑bks : Int), pv ct.p 0, iv 0, Value.bool !decide (t = (9 : Int)), iv ((40960 : Int) + (↑o : Int)), uv 240, tu, tu, tu, tu, tu, tu, Value.slice ta (10 : Nat) tc, iv w, iv (↑q9 : Int), iv ((5 : Int) + (↑q9 : Int)), Value.pointer (some (Addr.mk (blk ta) (offA ta + ((5 : Nat) + q9)) none)), iv t, iv t, J9 (32 : Nat), J9 (33 : Nat), J9 (34 : Nat), J9 (35 : Nat), J9 (36 : Nat), J9 (37 : Nat), J9 (38 : Nat), J9 (39 : Nat), J9 (40 : Nat), Value.tuple #[pv ct.p 0, iv 0], iv t, iv rr, Value.agg #[iv t, iv 0, iv rr, iv 0, iv 0, Value.slice none (0 : Nat) (0 : Nat), Value.slice none (0 : Nat) (0 : Nat), Value.bool false], Value.slice la (32768 : Nat) (32768 : Nat), Value.tuple #[pv ct.p 0, iv 0], pv ct.p 0, iv 0, pv ct.p 0, Value.bool false, Value.bool false, iv 0, Value.bool false, Value.bool false, iv t, Value.bool !decide (t = (9 : Int)), iv at0, iv (↑o : Int), iv ((40960 : Int) + (↑o : Int)), Value.bool !decide (t = (9 : Int)), pv ct.p 0, iv ((40960 : Int) + (↑o : Int)), tu, pv ct.p 0, iv ((40960 : Int) + (↑o : Int)), uv 255, Value.bool false, pv ct.p 0, tu, pv ct.p 0, tu, iv t, Value.bool (decide (t = (6 : Int))), tu, tu, tu, tu, tu, tu, tu, tu, tu, tu, tu, tu, tu, tu, tu, tu, tu, tu, tu, tu, tu, tu, tu, tu, tu, tu, tu, tu, tu, tu, tu, tu, tu, tu, tu, tu, tu, tu, tu, tu, tu, tu, tu, tu, tu, tu, tu, tu, tu, tu, tu, tu, tu, tu, tu, tu, tu, tu, tu, tu, tu, tu, tu, tu, tu, tu, tu, tu, tu, tu, tu, tu, tu, tu, tu, tu, tu, tu, tu, tu, tu, tu, tu, tu, tu, tu, tu, tu, tu, tu, tu, tu, tu, tu, tu, tu, tu, tu, tu, tu, tu, tu, tu, tu, tu, tu, tu, tu, tu, tu, tu] : List Value).getD j9 undef) ?_))
      · rfl
      · unfold hgK; rw [if_pos (by omega)]
    · (focus
        refine Xg.at_false (t := decide ((t = (6 : Int)))) (by kernel_rfl) (decide_eq_false (by omega)) ?_
        refine Xg.at_skip ?_)
      (focus
        refine Xg.at_keep [0, 2, 3] (by kernel_rfl) ?_
        refine Xg.At.same (by kernel_rfl) ?_ (hk (((0 : Int)), fun j9 => ([iv w, iv cd, Value.slice va nv vc, iv at0, iv sh, tu, tu, tu, tu, tu, Value.bool false, iv t, iv rr, iv (↑bks : Int), pv ct.p 0, iv 0, Value.bool !decide (t = (9 : Int)), iv ((40960 : Int) + (↑o : Int)), uv 0, tu, tu, tu, tu, tu, tu, Value.slice ta (10 : Nat) tc, iv w, iv (↑q9 : Int), iv ((5 : Int) + (↑q9 : Int)), Value.pointer (some (Addr.mk (blk ta) (offA ta + ((5 : Nat) + q9)) none)), iv t, iv t, J9 (32 : Nat), J9 (33 : Nat), J9 (34 : Nat), J9 (35 : Nat), J9 (36 : Nat), J9 (37 : Nat), J9 (38 : Nat), J9 (39 : Nat), J9 (40 : Nat), Value.tuple #[pv ct.p 0, iv 0], iv t, iv rr, Value.agg #[iv t, iv 0, iv rr, iv 0, iv 0, Value.slice none (0 : Nat) (0 : Nat), Value.slice none (0 : Nat) (0 : Nat), Value.bool false], Value.slice la (32768 : Nat) (32768 : Nat), Value.tuple #[pv ct.p 0, iv 0], pv ct.p 0, iv 0, pv ct.p 0, Value.bool false, Value.bool false, iv 0, Value.bool false, Value.bool false, iv t, Value.bool !decide (t = (9 : Int)), iv at0, iv (↑o : Int), iv ((40960 : Int) + (↑o : Int)), Value.bool !decide (t = (9 : Int)), pv ct.p 0, iv ((40960 : Int) + (↑o : Int)), tu, pv ct.p 0, iv ((40960 : Int) + (↑o : Int)), uv 255, Value.bool false, pv ct.p 0, tu, pv ct.p 0, tu, iv t, Value.bool (decide (t = (6 : Int))), tu, tu, tu, tu, tu, tu, tu, tu, tu, tu, tu, tu, tu, tu, tu, tu, tu, tu, tu, tu, tu, tu, tu, tu, tu, tu, tu, tu, tu, tu, tu, tu, tu, tu, tu, tu, tu, tu, tu, tu, tu, tu, tu, tu, tu, tu, tu, tu, tu, tu, tu, tu, tu, tu, tu, tu, tu, tu, tu, tu, tu, tu, tu, tu, tu, tu, tu, tu, tu, tu, tu, tu, tu, tu, tu, tu, tu, tu, tu, tu, tu, tu, tu, tu, tu, tu, tu, tu, tu, tu, tu, tu, tu, tu, tu, tu, tu, tu, tu, tu, tu, tu, tu, tu, tu, tu, tu, tu, tu, tu, tu] : List Value).getD j9 undef) ?_))
      · rfl
      · unfold hgK; rw [if_neg (by omega)]
  rintro ⟨hg, J0⟩ hge
  dsimp only at hge
  subst hge
  (focus
    refine Xg.At.same (T' := [iv w, iv cd, Value.slice va nv vc, iv at0, iv sh, tu, tu, tu, tu, tu, Value.bool false, iv t, iv rr, iv (↑bks : Int), pv ct.p 0, iv 0, Value.bool !decide (t = (9 : Int)), iv ((40960 : Int) + (↑o : Int)), uv (hgK κ), tu, tu, tu, tu, tu, tu, Value.slice ta (10 : Nat) tc, iv w, iv (↑q9 : Int), iv ((5 : Int) + (↑q9 : Int)), Value.pointer (some (Addr.mk (blk ta) (offA ta + ((5 : Nat) + q9)) none)), iv t, iv t, J9 (32 : Nat), J9 (33 : Nat), J9 (34 : Nat), J9 (35 : Nat), J9 (36 : Nat), J9 (37 : Nat), J9 (38 : Nat), J9 (39 : Nat), J9 (40 : Nat), Value.tuple #[pv ct.p 0, iv 0], iv t, iv rr, Value.agg #[iv t, iv 0, iv rr, iv 0, iv 0, Value.slice none (0 : Nat) (0 : Nat), Value.slice none (0 : Nat) (0 : Nat), Value.bool false], Value.slice la (32768 : Nat) (32768 : Nat), Value.tuple #[pv ct.p 0, iv 0], pv ct.p 0, iv 0, pv ct.p 0, Value.bool false, Value.bool false, iv 0, Value.bool false, Value.bool false, iv t, Value.bool !decide (t = (9 : Int)), iv at0, iv (↑o : Int), iv ((40960 : Int) + (↑o : Int)), Value.bool !decide (t = (9 : Int)), pv ct.p 0, iv ((40960 : Int) + (↑o : Int)), tu, pv ct.p 0, iv ((40960 : Int) + (↑o : Int)), uv 255, Value.bool false, pv ct.p 0, tu, pv ct.p 0, tu, iv t, Value.bool (decide (t = (6 : Int))), tu, tu, tu, tu, tu, tu, tu, tu, tu, tu, tu, tu, tu, tu, tu, tu, tu, tu, tu, tu, tu, tu, tu, tu, tu, tu, tu, tu, tu, tu, tu, tu, tu, tu, tu, tu, tu, tu, tu, tu, tu, tu, tu, tu, tu, tu, tu, tu, tu, tu, tu, tu, tu, tu, tu, tu, tu, tu, tu, tu, tu, tu, tu, tu, tu, tu, tu, tu, tu, tu, tu, tu, tu, tu, tu, tu, tu, tu, tu, tu, tu, tu, tu, tu, tu, tu, tu, tu, tu, tu, tu, tu, tu, tu, tu, tu, tu, tu, tu, tu, tu, tu, tu, tu, tu, tu, tu, tu, tu, tu, tu]) (L' := [CTP κ ct h (rI κ (0 : Nat)) R M0, A, TyP te ta tc]) (by kernel_rfl) rfl ?_)
  (focus
    refine Xg.at_seq ?_
    refine Xg.at_seq ?_
    refine Xg.at_region ?_
    refine Xg.ops_op (by kernel_rfl) (Xg.opx_pure ((iv 0)) rfl (fun _ => by kernel_rfl) ?_)
    refine Xg.ops_nil ?_
    refine Xg.at_block ?_)
  (focus
    refine Xg.at_rounds_inv (α := (Nat × List Int × Nat) × (Nat → Value)) (fun x => ((fun y => y.1 ≤ bks ∧ y.2.1.length = mn ∧ isB y.2.1 ∧ (∀ j, j < bks → y.2.1.getD (posK κ o j) 0 = if j < y.1 then ramV κ (vjI V nv j) else 0) ∧ y.2.2 ≤ 3) : (Nat × List Int × Nat) → Prop) x.1) (fun x => ((fun y => bks - y.1) : (Nat × List Int × Nat) → Nat) x.1) (fun x => Xg.headT [iv w, iv cd, Value.slice va nv vc, iv at0, iv sh, tu, tu, tu, tu, tu, Value.bool false, iv t, iv rr, iv (↑bks : Int), pv ct.p 0, iv 0, Value.bool !decide (t = (9 : Int)), iv ((40960 : Int) + (↑o : Int)), uv (hgK κ), iv 0, tu, tu, tu, tu, tu, Value.slice ta (10 : Nat) tc, iv w, iv (↑q9 : Int), iv ((5 : Int) + (↑q9 : Int)), Value.pointer (some (Addr.mk (blk ta) (offA ta + ((5 : Nat) + q9)) none)), iv t, iv t, J9 (32 : Nat), J9 (33 : Nat), J9 (34 : Nat), J9 (35 : Nat), J9 (36 : Nat), J9 (37 : Nat), J9 (38 : Nat), J9 (39 : Nat), J9 (40 : Nat), Value.tuple #[pv ct.p 0, iv 0], iv t, iv rr, Value.agg #[iv t, iv 0, iv rr, iv 0, iv 0, Value.slice none (0 : Nat) (0 : Nat), Value.slice none (0 : Nat) (0 : Nat), Value.bool false], Value.slice la (32768 : Nat) (32768 : Nat), Value.tuple #[pv ct.p 0, iv 0], pv ct.p 0, iv 0, pv ct.p 0, Value.bool false, Value.bool false, iv 0, Value.bool false, Value.bool false, iv t, Value.bool !decide (t = (9 : Int)), iv at0, iv (↑o : Int), iv ((40960 : Int) + (↑o : Int)), Value.bool !decide (t = (9 : Int)), pv ct.p 0, iv ((40960 : Int) + (↑o : Int)), tu, pv ct.p 0, iv ((40960 : Int) + (↑o : Int)), uv 255, Value.bool false, pv ct.p 0, tu, pv ct.p 0, tu, iv t, Value.bool (decide (t = (6 : Int))), tu, tu, tu, tu, tu, tu, tu, tu, tu, tu, tu, tu, tu, tu, tu, tu, tu, tu, tu, tu, tu, tu, tu, tu, tu, tu, tu, tu, tu, tu, tu, tu, tu, tu, tu, tu, tu, tu, tu, tu, tu, tu, tu, tu, tu, tu, tu, tu, tu, tu, tu, tu, tu, tu, tu, tu, tu, tu, tu, tu, tu, tu, tu, tu, tu, tu, tu, tu, tu, tu, tu, tu, tu, tu, tu, tu, tu, tu, tu, tu, tu, tu, tu, tu, tu, tu, tu, tu, tu, tu, tu, tu, tu, tu, tu, tu, tu, tu, tu, tu, tu, tu, tu, tu, tu, tu, tu, tu, tu, tu, tu] [10, 20, 74, 75, 76, 77, 78, 79, 80, 81, 82, 83, 84, 85, 86, 87, 88, 89, 90, 91, 92, 93, 94, 95, 96, 97, 98, 99, 100, 101, 102, 103, 104, 105, 106, 107, 108] (((fun y => [(19, .int .i64 (y.1 : Nat))]) : (Nat × List Int × Nat) → List (Nat × Go.Value)) x.1) x.2) (fun x => ((fun y => [CTP κ ct h (rI κ y.2.2) R y.2.1, A, TyP te ta tc]) : (Nat × List Int × Nat) → List Go.Sl.HP) x.1) (((0, M0, 0)), fun j9 => ([iv w, iv cd, Value.slice va nv vc, iv at0, iv sh, tu, tu, tu, tu, tu, Value.bool false, iv t, iv rr, iv (↑bks : Int), pv ct.p 0, iv 0, Value.bool !decide (t = (9 : Int)), iv ((40960 : Int) + (↑o : Int)), uv (hgK κ), iv 0, tu, tu, tu, tu, tu, Value.slice ta (10 : Nat) tc, iv w, iv (↑q9 : Int), iv ((5 : Int) + (↑q9 : Int)), Value.pointer (some (Addr.mk (blk ta) (offA ta + ((5 : Nat) + q9)) none)), iv t, iv t, J9 (32 : Nat), J9 (33 : Nat), J9 (34 : Nat), J9 (35 : Nat), J9 (36 : Nat), J9 (37 : Nat), J9 (38 : Nat), J9 (39 : Nat), J9 (40 : Nat), Value.tuple #[pv ct.p 0, iv 0], iv t, iv rr, Value.agg #[iv t, iv 0, iv rr, iv 0, iv 0, Value.slice none (0 : Nat) (0 : Nat), Value.slice none (0 : Nat) (0 : Nat), Value.bool false], Value.slice la (32768 : Nat) (32768 : Nat), Value.tuple #[pv ct.p 0, iv 0], pv ct.p 0, iv 0, pv ct.p 0, Value.bool false, Value.bool false, iv 0, Value.bool false, Value.bool false, iv t, Value.bool !decide (t = (9 : Int)), iv at0, iv (↑o : Int), iv ((40960 : Int) + (↑o : Int)), Value.bool !decide (t = (9 : Int)), pv ct.p 0, iv ((40960 : Int) + (↑o : Int)), tu, pv ct.p 0, iv ((40960 : Int) + (↑o : Int)), uv 255, Value.bool false, pv ct.p 0, tu, pv ct.p 0, tu, iv t, Value.bool (decide (t = (6 : Int))), tu, tu, tu, tu, tu, tu, tu, tu, tu, tu, tu, tu, tu, tu, tu, tu, tu, tu, tu, tu, tu, tu, tu, tu, tu, tu, tu, tu, tu, tu, tu, tu, tu, tu, tu, tu, tu, tu, tu, tu, tu, tu, tu, tu, tu, tu, tu, tu, tu, tu, tu, tu, tu, tu, tu, tu, tu, tu, tu, tu, tu, tu, tu, tu, tu, tu, tu, tu, tu, tu, tu, tu, tu, tu, tu, tu, tu, tu, tu, tu, tu, tu, tu, tu, tu, tu, tu, tu, tu, tu, tu, tu, tu, tu, tu, tu, tu, tu, tu, tu, tu, tu, tu, tu, tu, tu, tu, tu, tu, tu, tu] : List Value).getD j9 undef) (by kernel_rfl) (by kernel_rfl) ?_ ?_)
  · exact ⟨Nat.zero_le _, hrep, hB0, fun j hj => by rw [if_neg (Nat.not_lt_zero _)]; exact hz0 _ (posK_lt hj ho8 hmm), Nat.zero_le _⟩
  rintro ⟨⟨i, M, p⟩, J1⟩ hI ih
  obtain ⟨hi, hM, hB, hf, hp⟩ := hI
  dsimp only at hi hM hB hf hp
  (focus
    refine Xg.At.same (T' := [iv w, iv cd, Value.slice va nv vc, iv at0, iv sh, tu, tu, tu, tu, tu, J1 10, iv t, iv rr, iv (↑bks : Int), pv ct.p 0, iv 0, Value.bool !decide (t = (9 : Int)), iv ((40960 : Int) + (↑o : Int)), uv (hgK κ), iv (↑i : Int), J1 20, tu, tu, tu, tu, Value.slice ta (10 : Nat) tc, iv w, iv (↑q9 : Int), iv ((5 : Int) + (↑q9 : Int)), Value.pointer (some (Addr.mk (blk ta) (offA ta + ((5 : Nat) + q9)) none)), iv t, iv t, J9 (32 : Nat), J9 (33 : Nat), J9 (34 : Nat), J9 (35 : Nat), J9 (36 : Nat), J9 (37 : Nat), J9 (38 : Nat), J9 (39 : Nat), J9 (40 : Nat), Value.tuple #[pv ct.p 0, iv 0], iv t, iv rr, Value.agg #[iv t, iv 0, iv rr, iv 0, iv 0, Value.slice none (0 : Nat) (0 : Nat), Value.slice none (0 : Nat) (0 : Nat), Value.bool false], Value.slice la (32768 : Nat) (32768 : Nat), Value.tuple #[pv ct.p 0, iv 0], pv ct.p 0, iv 0, pv ct.p 0, Value.bool false, Value.bool false, iv 0, Value.bool false, Value.bool false, iv t, Value.bool !decide (t = (9 : Int)), iv at0, iv (↑o : Int), iv ((40960 : Int) + (↑o : Int)), Value.bool !decide (t = (9 : Int)), pv ct.p 0, iv ((40960 : Int) + (↑o : Int)), tu, pv ct.p 0, iv ((40960 : Int) + (↑o : Int)), uv 255, Value.bool false, pv ct.p 0, tu, pv ct.p 0, tu, iv t, Value.bool (decide (t = (6 : Int))), J1 74, J1 75, J1 76, J1 77, J1 78, J1 79, J1 80, J1 81, J1 82, J1 83, J1 84, J1 85, J1 86, J1 87, J1 88, J1 89, J1 90, J1 91, J1 92, J1 93, J1 94, J1 95, J1 96, J1 97, J1 98, J1 99, J1 100, J1 101, J1 102, J1 103, J1 104, J1 105, J1 106, J1 107, J1 108, tu, tu, tu, tu, tu, tu, tu, tu, tu, tu, tu, tu, tu, tu, tu, tu, tu, tu, tu, tu, tu, tu, tu, tu, tu, tu, tu, tu, tu, tu, tu, tu, tu, tu, tu, tu, tu, tu, tu, tu, tu, tu, tu, tu, tu, tu, tu, tu, tu, tu, tu, tu, tu, tu, tu, tu, tu, tu, tu, tu, tu, tu, tu, tu, tu, tu, tu, tu, tu, tu, tu, tu, tu, tu, tu, tu]) (L' := [CTP κ ct h (rI κ ((i, M, p), J1).fst.snd.snd) R ((i, M, p), J1).fst.snd.fst, A, TyP te ta tc]) (by kernel_rfl) rfl ?_)
  by_cases hlt : i < bks
  · have hvo := vjI_ok V nv i hVl hVo (by omega)
    have hfi := hf i hlt
    rw [if_neg (Nat.lt_irrefl _)] at hfi
    have hci := cell_on hkk i bks o mn hlt hb4.2 hmm ho8
    have okp := okX (rI κ p) M (rI_ok hkk hp).1 hM hB
    have oki := okX (rI κ i) M (rI_ok hkk (by omega)).1 hM hB
    have hrd := readK_d oki (40960 + (o : Int)) ⟨by omega, by omega⟩
    rw [read_onK κ _ h.bk R M _ _ (by omega) (by rw [hM]; exact hci), hfi, rv_zero] at hrd
    (focus
      refine Xg.at_seq ?_
      refine Xg.at_seq ?_
      refine Xg.at_region ?_
      refine Xg.ops_op (by kernel_rfl) (Xg.opx_pure ((iv (↑i : Int))) rfl (fun _ => by kernel_rfl) ?_)
      refine Xg.ops_op (by kernel_rfl) (Xg.opx_pure ((iv (↑bks : Int))) rfl (fun _ => by kernel_rfl) ?_)
      refine Xg.ops_op (by kernel_rfl) (Xg.opx_pure (.bool (decide ((((↑i : Int)) : Int) < ((↑bks : Int))))) rfl (fun _ => by kernel_rfl) ?_)
      refine Xg.ops_nil ?_
      refine Xg.at_true (t := decide (((↑i : Int) < (↑bks : Int)))) (by kernel_rfl) (decide_eq_true (by omega)) ?_
      refine Xg.at_skip ?_
      refine Xg.at_seq ?_
      refine Xg.at_block ?_
      refine Xg.at_seq ?_
      refine Xg.at_seq ?_)
    (focus
      refine Xg.at_cut2 (α := (Unit) × (Nat → Value)) (fun x9 => ((fun _ => True) : (Unit) → Prop) x9.1) (fun x9 => Xg.headT [iv w, iv cd, Value.slice va nv vc, iv at0, iv sh, tu, tu, tu, tu, tu, J1 10, iv t, iv rr, iv (↑bks : Int), pv ct.p 0, iv 0, Value.bool !decide (t = (9 : Int)), iv ((40960 : Int) + (↑o : Int)), uv (hgK κ), iv (↑i : Int), J1 20, tu, tu, tu, tu, Value.slice ta (10 : Nat) tc, iv w, iv (↑q9 : Int), iv ((5 : Int) + (↑q9 : Int)), Value.pointer (some (Addr.mk (blk ta) (offA ta + ((5 : Nat) + q9)) none)), iv t, iv t, J9 (32 : Nat), J9 (33 : Nat), J9 (34 : Nat), J9 (35 : Nat), J9 (36 : Nat), J9 (37 : Nat), J9 (38 : Nat), J9 (39 : Nat), J9 (40 : Nat), Value.tuple #[pv ct.p 0, iv 0], iv t, iv rr, Value.agg #[iv t, iv 0, iv rr, iv 0, iv 0, Value.slice none (0 : Nat) (0 : Nat), Value.slice none (0 : Nat) (0 : Nat), Value.bool false], Value.slice la (32768 : Nat) (32768 : Nat), Value.tuple #[pv ct.p 0, iv 0], pv ct.p 0, iv 0, pv ct.p 0, Value.bool false, Value.bool false, iv 0, Value.bool false, Value.bool false, iv t, Value.bool !decide (t = (9 : Int)), iv at0, iv (↑o : Int), iv ((40960 : Int) + (↑o : Int)), Value.bool !decide (t = (9 : Int)), pv ct.p 0, iv ((40960 : Int) + (↑o : Int)), tu, pv ct.p 0, iv ((40960 : Int) + (↑o : Int)), uv 255, Value.bool false, pv ct.p 0, tu, pv ct.p 0, tu, iv t, Value.bool (decide (t = (6 : Int))), iv (↑i : Int), iv (↑bks : Int), Value.bool (decide ((↑i : Int) < (↑bks : Int))), J1 77, J1 78, J1 79, J1 80, J1 81, J1 82, J1 83, J1 84, J1 85, J1 86, J1 87, J1 88, J1 89, J1 90, J1 91, J1 92, J1 93, J1 94, J1 95, J1 96, J1 97, J1 98, J1 99, J1 100, J1 101, J1 102, J1 103, J1 104, J1 105, J1 106, J1 107, J1 108, tu, tu, tu, tu, tu, tu, tu, tu, tu, tu, tu, tu, tu, tu, tu, tu, tu, tu, tu, tu, tu, tu, tu, tu, tu, tu, tu, tu, tu, tu, tu, tu, tu, tu, tu, tu, tu, tu, tu, tu, tu, tu, tu, tu, tu, tu, tu, tu, tu, tu, tu, tu, tu, tu, tu, tu, tu, tu, tu, tu, tu, tu, tu, tu, tu, tu, tu, tu, tu, tu, tu, tu, tu, tu, tu, tu] [79, 80, 81, 82, 83, 84, 85, 86, 87] (((fun _ => []) : (Unit) → List (Nat × Go.Value)) x9.1) x9.2) (fun x9 => ((fun _ => [CTP κ ct h (rI κ i) R M, A, TyP te ta tc]) : (Unit) → List Go.Sl.HP) x9.1) (fun kk hk => ?_) ?_)
    · by_cases ht6 : t = 6
      · (focus
          refine Xg.at_region ?_
          refine Xg.ops_op (by kernel_rfl) (Xg.opx_pure ((Value.bool !decide (t = (9 : Int)))) rfl (fun _ => by kernel_rfl) ?_)
          refine Xg.ops_op (by kernel_rfl) (Xg.opx_pure ((Value.bool !decide (t = (9 : Int)))) rfl (fun _ => by kernel_rfl) ?_)
          refine Xg.ops_flag (j := 80) (c := (!decide (t = (9 : Int)))) (by kernel_rfl) (fun _ => ?_) (fun xh3 => absurd xh3 (by rw [decide_eq_false (p := (t = (9 : Int))) (by omega)]; decide))
          refine Xg.ops_op (by kernel_rfl) (Xg.opx_pure ((iv t)) rfl (fun _ => by kernel_rfl) ?_)
          refine Xg.ops_op (by kernel_rfl) (Xg.opx_pure (.bool (!decide ((t : Int) = ((6 : Int))))) rfl (fun _ => by kernel_rfl) ?_)
          refine Xg.ops_flag (j := 82) (c := (!decide (t = (6 : Int)))) (by kernel_rfl) (fun xh3 => absurd xh3 (by rw [decide_eq_true (p := (t = (6 : Int))) (by omega)]; decide)) (fun _ => ?_)
          refine Xg.ops_op (by kernel_rfl) (Xg.opx_pure ((Value.bool false)) rfl (fun _ => by kernel_rfl) ?_)
          refine Xg.ops_nil ?_
          refine Xg.at_false (t := false) (by kernel_rfl) rfl ?_
          refine Xg.at_skip ?_)
        dsimp only
        rw [show rI κ p = rI κ i by unfold rI; rw [if_pos (by omega), if_pos (by omega)]]
        (focus
          refine Xg.at_keep [0, 1, 2] (by kernel_rfl) ?_
          refine Xg.At.same (by kernel_rfl) ?_ (hk ((()), fun j9 => ([iv w, iv cd, Value.slice va nv vc, iv at0, iv sh, tu, tu, tu, tu, tu, J1 (10 : Nat), iv t, iv rr, iv (↑bks : Int), pv ct.p 0, iv 0, Value.bool !decide (t = (9 : Int)), iv ((40960 : Int) + (↑o : Int)), uv (hgK κ), iv (↑i : Int), J1 (20 : Nat), tu, tu, tu, tu, Value.slice ta (10 : Nat) tc, iv w, iv (↑q9 : Int), iv ((5 : Int) + (↑q9 : Int)), Value.pointer (some (Addr.mk (blk ta) (offA ta + ((5 : Nat) + q9)) none)), iv t, iv t, J9 (32 : Nat), J9 (33 : Nat), J9 (34 : Nat), J9 (35 : Nat), J9 (36 : Nat), J9 (37 : Nat), J9 (38 : Nat), J9 (39 : Nat), J9 (40 : Nat), Value.tuple #[pv ct.p 0, iv 0], iv t, iv rr, Value.agg #[iv t, iv 0, iv rr, iv 0, iv 0, Value.slice none (0 : Nat) (0 : Nat), Value.slice none (0 : Nat) (0 : Nat), Value.bool false], Value.slice la (32768 : Nat) (32768 : Nat), Value.tuple #[pv ct.p 0, iv 0], pv ct.p 0, iv 0, pv ct.p 0, Value.bool false, Value.bool false, iv 0, Value.bool false, Value.bool false, iv t, Value.bool !decide (t = (9 : Int)), iv at0, iv (↑o : Int), iv ((40960 : Int) + (↑o : Int)), Value.bool !decide (t = (9 : Int)), pv ct.p 0, iv ((40960 : Int) + (↑o : Int)), tu, pv ct.p 0, iv ((40960 : Int) + (↑o : Int)), uv 255, Value.bool false, pv ct.p 0, tu, pv ct.p 0, tu, iv t, Value.bool (decide (t = (6 : Int))), iv (↑i : Int), iv (↑bks : Int), Value.bool (decide ((↑i : Int) < (↑bks : Int))), J1 (77 : Nat), J1 (78 : Nat), Value.bool !decide (t = (9 : Int)), Value.bool true, iv t, Value.bool false, Value.bool false, J1 (84 : Nat), J1 (85 : Nat), J1 (86 : Nat), J1 (87 : Nat), J1 (88 : Nat), J1 (89 : Nat), J1 (90 : Nat), J1 (91 : Nat), J1 (92 : Nat), J1 (93 : Nat), J1 (94 : Nat), J1 (95 : Nat), J1 (96 : Nat), J1 (97 : Nat), J1 (98 : Nat), J1 (99 : Nat), J1 (100 : Nat), J1 (101 : Nat), J1 (102 : Nat), J1 (103 : Nat), J1 (104 : Nat), J1 (105 : Nat), J1 (106 : Nat), J1 (107 : Nat), J1 (108 : Nat), tu, tu, tu, tu, tu, tu, tu, tu, tu, tu, tu, tu, tu, tu, tu, tu, tu, tu, tu, tu, tu, tu, tu, tu, tu, tu, tu, tu, tu, tu, tu, tu, tu, tu, tu, tu, tu, tu, tu, tu, tu, tu, tu, tu, tu, tu, tu, tu, tu, tu, tu, tu, tu, tu, tu, tu, tu, tu, tu, tu, tu, tu, tu, tu, tu, tu, tu, tu, tu, tu, tu, tu, tu, tu, tu, tu] : List Value).getD j9 undef) ?_))
        · rfl
        · trivial
      · have hwB := writeRK_d okp 16384 (i : Int) (by decide) ⟨by omega, by omega⟩
        rw [reg_bank hkk (by omega) (by omega)] at hwB
        (focus
          refine Xg.at_region ?_
          refine Xg.ops_op (by kernel_rfl) (Xg.opx_pure ((Value.bool !decide (t = (9 : Int)))) rfl (fun _ => by kernel_rfl) ?_)
          refine Xg.ops_op (by kernel_rfl) (Xg.opx_pure ((Value.bool !decide (t = (9 : Int)))) rfl (fun _ => by kernel_rfl) ?_)
          refine Xg.ops_flag (j := 80) (c := (!decide (t = (9 : Int)))) (by kernel_rfl) (fun _ => ?_) (fun xh3 => absurd xh3 (by rw [decide_eq_false (p := (t = (9 : Int))) (by omega)]; decide))
          refine Xg.ops_op (by kernel_rfl) (Xg.opx_pure ((iv t)) rfl (fun _ => by kernel_rfl) ?_)
          refine Xg.ops_op (by kernel_rfl) (Xg.opx_pure (.bool (!decide ((t : Int) = ((6 : Int))))) rfl (fun _ => by kernel_rfl) ?_)
          refine Xg.ops_flag (j := 82) (c := (!decide (t = (6 : Int)))) (by kernel_rfl) (fun _ => ?_) (fun xh3 => absurd xh3 (by rw [decide_eq_false (p := (t = (6 : Int))) (by omega)]; decide))
          refine Xg.ops_op (by kernel_rfl) (Xg.opx_pure ((Value.bool true)) rfl (fun _ => by kernel_rfl) ?_)
          refine Xg.ops_nil ?_
          refine Xg.at_true (t := true) (by kernel_rfl) rfl ?_
          refine Xg.at_region ?_
          refine Xg.ops_op (by kernel_rfl) (Xg.opx_pure ((pv ct.p 0)) rfl (fun _ => by kernel_rfl) ?_)
          refine Xg.ops_op (by kernel_rfl) (Xg.opx_pure ((iv (↑i : Int))) rfl (fun _ => by kernel_rfl) ?_)
          refine Xg.ops_op (by kernel_rfl) (Xg.opx_int .u8 (IntKind.wrap .u8 (((↑i : Int)))) rfl (fun _ => by kernel_rfl) (Xg.wrap_u8_in (by omega)) ?_)
          refine Xg.ops_op (by kernel_rfl) (Xg.opx_call1' [0] [CTP κ ct h (rI κ i) R M, A, TyP te ta tc] (fun _ => by kernel_rfl) (@hwB ) (by kernel_rfl) (by kernel_rfl) (by kernel_rfl) ?_)
          refine Xg.ops_nil ?_)
        (focus
          refine Xg.at_keep [0, 1, 2] (by kernel_rfl) ?_
          refine Xg.At.same (by kernel_rfl) ?_ (hk ((()), fun j9 => ([iv w, iv cd, Value.slice va nv vc, iv at0, iv sh, tu, tu, tu, tu, tu, J1 10, iv t, iv rr, iv (↑bks : Int), pv ct.p 0, iv 0, Value.bool !decide (t = (9 : Int)), iv ((40960 : Int) + (↑o : Int)), uv (hgK κ), iv (↑i : Int), J1 20, tu, tu, tu, tu, Value.slice ta (10 : Nat) tc, iv w, iv (↑q9 : Int), iv ((5 : Int) + (↑q9 : Int)), Value.pointer (some (Addr.mk (blk ta) (offA ta + ((5 : Nat) + q9)) none)), iv t, iv t, J9 (32 : Nat), J9 (33 : Nat), J9 (34 : Nat), J9 (35 : Nat), J9 (36 : Nat), J9 (37 : Nat), J9 (38 : Nat), J9 (39 : Nat), J9 (40 : Nat), Value.tuple #[pv ct.p 0, iv 0], iv t, iv rr, Value.agg #[iv t, iv 0, iv rr, iv 0, iv 0, Value.slice none (0 : Nat) (0 : Nat), Value.slice none (0 : Nat) (0 : Nat), Value.bool false], Value.slice la (32768 : Nat) (32768 : Nat), Value.tuple #[pv ct.p 0, iv 0], pv ct.p 0, iv 0, pv ct.p 0, Value.bool false, Value.bool false, iv 0, Value.bool false, Value.bool false, iv t, Value.bool !decide (t = (9 : Int)), iv at0, iv (↑o : Int), iv ((40960 : Int) + (↑o : Int)), Value.bool !decide (t = (9 : Int)), pv ct.p 0, iv ((40960 : Int) + (↑o : Int)), tu, pv ct.p 0, iv ((40960 : Int) + (↑o : Int)), uv 255, Value.bool false, pv ct.p 0, tu, pv ct.p 0, tu, iv t, Value.bool (decide (t = (6 : Int))), iv (↑i : Int), iv (↑bks : Int), Value.bool (decide ((↑i : Int) < (↑bks : Int))), J1 77, J1 78, Value.bool !decide (t = (9 : Int)), Value.bool true, iv t, Value.bool true, Value.bool true, pv ct.p 0, iv (↑i : Int), uv (↑i : Int), tu, J1 88, J1 89, J1 90, J1 91, J1 92, J1 93, J1 94, J1 95, J1 96, J1 97, J1 98, J1 99, J1 100, J1 101, J1 102, J1 103, J1 104, J1 105, J1 106, J1 107, J1 108, tu, tu, tu, tu, tu, tu, tu, tu, tu, tu, tu, tu, tu, tu, tu, tu, tu, tu, tu, tu, tu, tu, tu, tu, tu, tu, tu, tu, tu, tu, tu, tu, tu, tu, tu, tu, tu, tu, tu, tu, tu, tu, tu, tu, tu, tu, tu, tu, tu, tu, tu, tu, tu, tu, tu, tu, tu, tu, tu, tu, tu, tu, tu, tu, tu, tu, tu, tu, tu, tu, tu, tu, tu, tu, tu, tu] : List Value).getD j9 undef) ?_))
        · rfl
        · trivial
    rintro ⟨u1, J7⟩ hk0
    clear hk0
    (focus
      refine Xg.At.same (T' := [iv w, iv cd, Value.slice va nv vc, iv at0, iv sh, tu, tu, tu, tu, tu, J1 10, iv t, iv rr, iv (↑bks : Int), pv ct.p 0, iv 0, Value.bool !decide (t = (9 : Int)), iv ((40960 : Int) + (↑o : Int)), uv (hgK κ), iv (↑i : Int), J1 20, tu, tu, tu, tu, Value.slice ta (10 : Nat) tc, iv w, iv (↑q9 : Int), iv ((5 : Int) + (↑q9 : Int)), Value.pointer (some (Addr.mk (blk ta) (offA ta + ((5 : Nat) + q9)) none)), iv t, iv t, J9 (32 : Nat), J9 (33 : Nat), J9 (34 : Nat), J9 (35 : Nat), J9 (36 : Nat), J9 (37 : Nat), J9 (38 : Nat), J9 (39 : Nat), J9 (40 : Nat), Value.tuple #[pv ct.p 0, iv 0], iv t, iv rr, Value.agg #[iv t, iv 0, iv rr, iv 0, iv 0, Value.slice none (0 : Nat) (0 : Nat), Value.slice none (0 : Nat) (0 : Nat), Value.bool false], Value.slice la (32768 : Nat) (32768 : Nat), Value.tuple #[pv ct.p 0, iv 0], pv ct.p 0, iv 0, pv ct.p 0, Value.bool false, Value.bool false, iv 0, Value.bool false, Value.bool false, iv t, Value.bool !decide (t = (9 : Int)), iv at0, iv (↑o : Int), iv ((40960 : Int) + (↑o : Int)), Value.bool !decide (t = (9 : Int)), pv ct.p 0, iv ((40960 : Int) + (↑o : Int)), tu, pv ct.p 0, iv ((40960 : Int) + (↑o : Int)), uv 255, Value.bool false, pv ct.p 0, tu, pv ct.p 0, tu, iv t, Value.bool (decide (t = (6 : Int))), iv (↑i : Int), iv (↑bks : Int), Value.bool (decide ((↑i : Int) < (↑bks : Int))), J1 77, J1 78, J7 79, J7 80, J7 81, J7 82, J7 83, J7 84, J7 85, J7 86, J7 87, J1 88, J1 89, J1 90, J1 91, J1 92, J1 93, J1 94, J1 95, J1 96, J1 97, J1 98, J1 99, J1 100, J1 101, J1 102, J1 103, J1 104, J1 105, J1 106, J1 107, J1 108, tu, tu, tu, tu, tu, tu, tu, tu, tu, tu, tu, tu, tu, tu, tu, tu, tu, tu, tu, tu, tu, tu, tu, tu, tu, tu, tu, tu, tu, tu, tu, tu, tu, tu, tu, tu, tu, tu, tu, tu, tu, tu, tu, tu, tu, tu, tu, tu, tu, tu, tu, tu, tu, tu, tu, tu, tu, tu, tu, tu, tu, tu, tu, tu, tu, tu, tu, tu, tu, tu, tu, tu, tu, tu, tu, tu]) (L' := [CTP κ ct h (rI κ i) R M, A, TyP te ta tc]) (by kernel_rfl) rfl ?_)
    (focus
      refine Xg.at_seq ?_
      refine Xg.at_seq ?_
      refine Xg.at_region ?_
      refine Xg.ops_op (by kernel_rfl) (Xg.opx_pure ((pv ct.p 0)) rfl (fun _ => by kernel_rfl) ?_)
      refine Xg.ops_op (by kernel_rfl) (Xg.opx_pure ((iv ((40960 : Int) + (↑o : Int)))) rfl (fun _ => by kernel_rfl) ?_)
      refine Xg.ops_op (by kernel_rfl) (Xg.opx_call1' [0] [CTP κ ct h (rI κ i) R M, A, TyP te ta tc] (fun _ => by kernel_rfl) (@hrd ) (by kernel_rfl) (by kernel_rfl) (by kernel_rfl) ?_)
      refine Xg.ops_op (by kernel_rfl) (Xg.opx_pure ((uv (hgK κ))) rfl (fun _ => by kernel_rfl) ?_)
      refine Xg.ops_op (by kernel_rfl) (Xg.opx_pure (.bool (!decide (((hgK κ) : Int) = (hgK κ)))) rfl (fun _ => by kernel_rfl) ?_)
      refine Xg.ops_nil ?_
      refine Xg.at_false (t := !decide ((hgK κ = hgK κ))) (by kernel_rfl) (by rw [decide_eq_true (by omega)]; rfl) ?_
      refine Xg.at_skip ?_
      refine Xg.at_seq ?_
      refine Xg.at_region ?_
      refine Xg.ops_op (by kernel_rfl) (Xg.opx_pure ((iv (↑i : Int))) rfl (fun _ => by kernel_rfl) ?_)
      refine Xg.ops_op (by kernel_rfl) (Xg.opx_int .i64 (IntKind.wrap .i64 (((↑i : Int) + (1 : Int)))) rfl (fun _ => by kernel_rfl) (Xg.wrap_i64_in (by omega)) ?_)
      refine Xg.ops_op (by kernel_rfl) (Xg.opx_int .u8 (IntKind.wrap .u8 (((↑i : Int) + (1 : Int)))) rfl (fun _ => by kernel_rfl) (Xg.wrap_u8_in (by omega)) ?_)
      refine Xg.ops_op (by kernel_rfl) (Xg.opx_pure ((uv ((↑i : Int) + (1 : Int)))) rfl (fun _ => by kernel_rfl) ?_)
      refine Xg.ops_nil ?_
      refine Xg.at_seq ?_
      refine Xg.at_seq ?_
      refine Xg.at_region ?_
      refine Xg.ops_op (by kernel_rfl) (Xg.opx_pure ((iv (↑i : Int))) rfl (fun _ => by kernel_rfl) ?_)
      refine Xg.ops_op (by kernel_rfl) (Xg.opx_pure ((Value.slice va nv vc)) rfl (fun _ => by kernel_rfl) ?_)
      refine Xg.ops_op (by kernel_rfl) (Xg.opx_pure ((iv (↑nv : Int))) rfl (fun _ => by kernel_rfl) ?_)
      refine Xg.ops_op (by kernel_rfl) (Xg.opx_pure (.bool (decide ((((↑i : Int)) : Int) < ((↑nv : Int))))) rfl (fun _ => by kernel_rfl) ?_)
      refine Xg.ops_nil ?_)
    (focus
      refine Xg.at_cut (α := (Int) × (Nat → Value)) (fun x9 => ((fun v => vjI V nv i = v) : (Int) → Prop) x9.1) (fun x9 => Xg.headT [iv w, iv cd, Value.slice va nv vc, iv at0, iv sh, tu, tu, tu, tu, tu, J1 10, iv t, iv rr, iv (↑bks : Int), pv ct.p 0, iv 0, Value.bool !decide (t = (9 : Int)), iv ((40960 : Int) + (↑o : Int)), uv (hgK κ), iv (↑i : Int), uv ((↑i : Int) + (1 : Int)), tu, tu, tu, tu, Value.slice ta (10 : Nat) tc, iv w, iv (↑q9 : Int), iv ((5 : Int) + (↑q9 : Int)), Value.pointer (some (Addr.mk (blk ta) (offA ta + ((5 : Nat) + q9)) none)), iv t, iv t, J9 (32 : Nat), J9 (33 : Nat), J9 (34 : Nat), J9 (35 : Nat), J9 (36 : Nat), J9 (37 : Nat), J9 (38 : Nat), J9 (39 : Nat), J9 (40 : Nat), Value.tuple #[pv ct.p 0, iv 0], iv t, iv rr, Value.agg #[iv t, iv 0, iv rr, iv 0, iv 0, Value.slice none (0 : Nat) (0 : Nat), Value.slice none (0 : Nat) (0 : Nat), Value.bool false], Value.slice la (32768 : Nat) (32768 : Nat), Value.tuple #[pv ct.p 0, iv 0], pv ct.p 0, iv 0, pv ct.p 0, Value.bool false, Value.bool false, iv 0, Value.bool false, Value.bool false, iv t, Value.bool !decide (t = (9 : Int)), iv at0, iv (↑o : Int), iv ((40960 : Int) + (↑o : Int)), Value.bool !decide (t = (9 : Int)), pv ct.p 0, iv ((40960 : Int) + (↑o : Int)), tu, pv ct.p 0, iv ((40960 : Int) + (↑o : Int)), uv 255, Value.bool false, pv ct.p 0, tu, pv ct.p 0, tu, iv t, Value.bool (decide (t = (6 : Int))), iv (↑i : Int), iv (↑bks : Int), Value.bool (decide ((↑i : Int) < (↑bks : Int))), J1 77, J1 78, J7 79, J7 80, J7 81, J7 82, J7 83, J7 84, J7 85, J7 86, J7 87, pv ct.p 0, iv ((40960 : Int) + (↑o : Int)), uv (hgK κ), uv (hgK κ), Value.bool !decide (hgK κ = hgK κ), iv (↑i : Int), iv ((↑i : Int) + (1 : Int)), uv ((↑i : Int) + (1 : Int)), iv (↑i : Int), Value.slice va nv vc, iv (↑nv : Int), Value.bool (decide ((↑i : Int) < (↑nv : Int))), J1 100, J1 101, J1 102, J1 103, J1 104, J1 105, J1 106, J1 107, J1 108, tu, tu, tu, tu, tu, tu, tu, tu, tu, tu, tu, tu, tu, tu, tu, tu, tu, tu, tu, tu, tu, tu, tu, tu, tu, tu, tu, tu, tu, tu, tu, tu, tu, tu, tu, tu, tu, tu, tu, tu, tu, tu, tu, tu, tu, tu, tu, tu, tu, tu, tu, tu, tu, tu, tu, tu, tu, tu, tu, tu, tu, tu, tu, tu, tu, tu, tu, tu, tu, tu, tu, tu, tu, tu, tu, tu] [100, 101, 102, 103, 104] (((fun v => [(20, .int .u8 v)]) : (Int) → List (Nat × Go.Value)) x9.1) x9.2) (fun x9 => ((fun v => [CTP κ ct h (rI κ i) R M, A, TyP te ta tc]) : (Int) → List Go.Sl.HP) x9.1) (fun kk hk => ?_) ?_)
    · by_cases hiv : i < nv
      · (focus
          refine Xg.at_true (t := decide (((↑i : Int) < (↑nv : Int)))) (by kernel_rfl) (decide_eq_true (by omega)) ?_
          refine Xg.at_region ?_
          refine Xg.ops_op (by kernel_rfl) (Xg.opx_pure ((Value.slice va nv vc)) rfl (fun _ => by kernel_rfl) ?_)
          refine Xg.ops_op (by kernel_rfl) (Xg.opx_pure ((iv (↑i : Int))) rfl (fun _ => by kernel_rfl) ?_)
          refine Xg.ops_op (by kernel_rfl) (Xg.opx_rd 1 (.pointer (some (Addr.mk (Xg.blk va) (offA va + i) none))) rfl hV (by kernel_rfl) (Xg.run_ix_rd (elem := 3) (kd := .i64) (e := ((↑i : Int))) 1 i (offA va + i) (by kernel_rfl) (by kernel_rfl) (by kernel_rfl) (by kernel_rfl) rfl (by omega) (by simp only [List.length_map]; omega) (by omega)) ?_)
          refine Xg.ops_op (by kernel_rfl) (Xg.opx_rd 1 (iv (V.getD i (0 : Int))) rfl hV (by kernel_rfl) (Xg.run_load_rd (off0 := (offA va + i)) i (by kernel_rfl) (by omega) (Xg.get_ints (by omega)) (by kernel_rfl)) ?_)
          refine Xg.ops_op (by kernel_rfl) (Xg.opx_int .u8 (IntKind.wrap .u8 ((V.getD i (0 : Int)))) rfl (fun _ => by kernel_rfl) (Xg.wrap_u8_mod _) ?_)
          refine Xg.ops_op (by kernel_rfl) (Xg.opx_pure ((uv (V.getD i (0 : Int) % (256 : Int)))) rfl (fun _ => by kernel_rfl) ?_)
          refine Xg.ops_nil ?_)
        (focus
          refine Xg.at_keep [0, 1, 2] (by kernel_rfl) ?_
          refine Xg.At.same (by kernel_rfl) ?_ (hk (((V.getD i 0 % 256)), fun j9 => ([iv w, iv cd, Value.slice va nv vc, iv at0, iv sh, tu, tu, tu, tu, tu, J1 10, iv t, iv rr, iv (↑bks : Int), pv ct.p 0, iv 0, Value.bool !decide (t = (9 : Int)), iv ((40960 : Int) + (↑o : Int)), uv (hgK κ), iv (↑i : Int), uv (V.getD i (0 : Int) % (256 : Int)), tu, tu, tu, tu, Value.slice ta (10 : Nat) tc, iv w, iv (↑q9 : Int), iv ((5 : Int) + (↑q9 : Int)), Value.pointer (some (Addr.mk (blk ta) (offA ta + ((5 : Nat) + q9)) none)), iv t, iv t, J9 (32 : Nat), J9 (33 : Nat), J9 (34 : Nat), J9 (35 : Nat), J9 (36 : Nat), J9 (37 : Nat), J9 (38 : Nat), J9 (39 : Nat), J9 (40 : Nat), Value.tuple #[pv ct.p 0, iv 0], iv t, iv rr, Value.agg #[iv t, iv 0, iv rr, iv 0, iv 0, Value.slice none (0 : Nat) (0 : Nat), Value.slice none (0 : Nat) (0 : Nat), Value.bool false], Value.slice la (32768 : Nat) (32768 : Nat), Value.tuple #[pv ct.p 0, iv 0], pv ct.p 0, iv 0, pv ct.p 0, Value.bool false, Value.bool false, iv 0, Value.bool false, Value.bool false, iv t, Value.bool !decide (t = (9 : Int)), iv at0, iv (↑o : Int), iv ((40960 : Int) + (↑o : Int)), Value.bool !decide (t = (9 : Int)), pv ct.p 0, iv ((40960 : Int) + (↑o : Int)), tu, pv ct.p 0, iv ((40960 : Int) + (↑o : Int)), uv 255, Value.bool false, pv ct.p 0, tu, pv ct.p 0, tu, iv t, Value.bool (decide (t = (6 : Int))), iv (↑i : Int), iv (↑bks : Int), Value.bool (decide ((↑i : Int) < (↑bks : Int))), J1 77, J1 78, J7 79, J7 80, J7 81, J7 82, J7 83, J7 84, J7 85, J7 86, J7 87, pv ct.p 0, iv ((40960 : Int) + (↑o : Int)), uv (hgK κ), uv (hgK κ), Value.bool !decide (hgK κ = hgK κ), iv (↑i : Int), iv ((↑i : Int) + (1 : Int)), uv ((↑i : Int) + (1 : Int)), iv (↑i : Int), Value.slice va nv vc, iv (↑nv : Int), Value.bool (decide ((↑i : Int) < (↑nv : Int))), Value.slice va nv vc, iv (↑i : Int), Value.pointer (some (Addr.mk (blk va) (offA va + i) none)), iv (V.getD i (0 : Int)), uv (V.getD i (0 : Int) % (256 : Int)), J1 105, J1 106, J1 107, J1 108, tu, tu, tu, tu, tu, tu, tu, tu, tu, tu, tu, tu, tu, tu, tu, tu, tu, tu, tu, tu, tu, tu, tu, tu, tu, tu, tu, tu, tu, tu, tu, tu, tu, tu, tu, tu, tu, tu, tu, tu, tu, tu, tu, tu, tu, tu, tu, tu, tu, tu, tu, tu, tu, tu, tu, tu, tu, tu, tu, tu, tu, tu, tu, tu, tu, tu, tu, tu, tu, tu, tu, tu, tu, tu, tu, tu] : List Value).getD j9 undef) ?_))
        · rfl
        · unfold vjI; rw [if_pos hiv]
      · (focus
          refine Xg.at_false (t := decide (((↑i : Int) < (↑nv : Int)))) (by kernel_rfl) (decide_eq_false (by omega)) ?_
          refine Xg.at_skip ?_)
        (focus
          refine Xg.at_keep [0, 1, 2] (by kernel_rfl) ?_
          refine Xg.At.same (by kernel_rfl) ?_ (hk ((((i : Int) + 1)), fun j9 => ([iv w, iv cd, Value.slice va nv vc, iv at0, iv sh, tu, tu, tu, tu, tu, J1 10, iv t, iv rr, iv (↑bks : Int), pv ct.p 0, iv 0, Value.bool !decide (t = (9 : Int)), iv ((40960 : Int) + (↑o : Int)), uv (hgK κ), iv (↑i : Int), uv ((↑i : Int) + (1 : Int)), tu, tu, tu, tu, Value.slice ta (10 : Nat) tc, iv w, iv (↑q9 : Int), iv ((5 : Int) + (↑q9 : Int)), Value.pointer (some (Addr.mk (blk ta) (offA ta + ((5 : Nat) + q9)) none)), iv t, iv t, J9 (32 : Nat), J9 (33 : Nat), J9 (34 : Nat), J9 (35 : Nat), J9 (36 : Nat), J9 (37 : Nat), J9 (38 : Nat), J9 (39 : Nat), J9 (40 : Nat), Value.tuple #[pv ct.p 0, iv 0], iv t, iv rr, Value.agg #[iv t, iv 0, iv rr, iv 0, iv 0, Value.slice none (0 : Nat) (0 : Nat), Value.slice none (0 : Nat) (0 : Nat), Value.bool false], Value.slice la (32768 : Nat) (32768 : Nat), Value.tuple #[pv ct.p 0, iv 0], pv ct.p 0, iv 0, pv ct.p 0, Value.bool false, Value.bool false, iv 0, Value.bool false, Value.bool false, iv t, Value.bool !decide (t = (9 : Int)), iv at0, iv (↑o : Int), iv ((40960 : Int) + (↑o : Int)), Value.bool !decide (t = (9 : Int)), pv ct.p 0, iv ((40960 : Int) + (↑o : Int)), tu, pv ct.p 0, iv ((40960 : Int) + (↑o : Int)), uv 255, Value.bool false, pv ct.p 0, tu, pv ct.p 0, tu, iv t, Value.bool (decide (t = (6 : Int))), iv (↑i : Int), iv (↑bks : Int), Value.bool (decide ((↑i : Int) < (↑bks : Int))), J1 77, J1 78, J7 79, J7 80, J7 81, J7 82, J7 83, J7 84, J7 85, J7 86, J7 87, pv ct.p 0, iv ((40960 : Int) + (↑o : Int)), uv (hgK κ), uv (hgK κ), Value.bool !decide (hgK κ = hgK κ), iv (↑i : Int), iv ((↑i : Int) + (1 : Int)), uv ((↑i : Int) + (1 : Int)), iv (↑i : Int), Value.slice va nv vc, iv (↑nv : Int), Value.bool (decide ((↑i : Int) < (↑nv : Int))), J1 100, J1 101, J1 102, J1 103, J1 104, J1 105, J1 106, J1 107, J1 108, tu, tu, tu, tu, tu, tu, tu, tu, tu, tu, tu, tu, tu, tu, tu, tu, tu, tu, tu, tu, tu, tu, tu, tu, tu, tu, tu, tu, tu, tu, tu, tu, tu, tu, tu, tu, tu, tu, tu, tu, tu, tu, tu, tu, tu, tu, tu, tu, tu, tu, tu, tu, tu, tu, tu, tu, tu, tu, tu, tu, tu, tu, tu, tu, tu, tu, tu, tu, tu, tu, tu, tu, tu, tu, tu, tu] : List Value).getD j9 undef) ?_))
        · rfl
        · unfold vjI; rw [if_neg hiv]
    rintro ⟨v, J2⟩ hv
    dsimp only at hv
    subst hv
    (focus
      refine Xg.At.same (T' := [iv w, iv cd, Value.slice va nv vc, iv at0, iv sh, tu, tu, tu, tu, tu, J1 10, iv t, iv rr, iv (↑bks : Int), pv ct.p 0, iv 0, Value.bool !decide (t = (9 : Int)), iv ((40960 : Int) + (↑o : Int)), uv (hgK κ), iv (↑i : Int), uv (vjI V nv i), tu, tu, tu, tu, Value.slice ta (10 : Nat) tc, iv w, iv (↑q9 : Int), iv ((5 : Int) + (↑q9 : Int)), Value.pointer (some (Addr.mk (blk ta) (offA ta + ((5 : Nat) + q9)) none)), iv t, iv t, J9 (32 : Nat), J9 (33 : Nat), J9 (34 : Nat), J9 (35 : Nat), J9 (36 : Nat), J9 (37 : Nat), J9 (38 : Nat), J9 (39 : Nat), J9 (40 : Nat), Value.tuple #[pv ct.p 0, iv 0], iv t, iv rr, Value.agg #[iv t, iv 0, iv rr, iv 0, iv 0, Value.slice none (0 : Nat) (0 : Nat), Value.slice none (0 : Nat) (0 : Nat), Value.bool false], Value.slice la (32768 : Nat) (32768 : Nat), Value.tuple #[pv ct.p 0, iv 0], pv ct.p 0, iv 0, pv ct.p 0, Value.bool false, Value.bool false, iv 0, Value.bool false, Value.bool false, iv t, Value.bool !decide (t = (9 : Int)), iv at0, iv (↑o : Int), iv ((40960 : Int) + (↑o : Int)), Value.bool !decide (t = (9 : Int)), pv ct.p 0, iv ((40960 : Int) + (↑o : Int)), tu, pv ct.p 0, iv ((40960 : Int) + (↑o : Int)), uv 255, Value.bool false, pv ct.p 0, tu, pv ct.p 0, tu, iv t, Value.bool (decide (t = (6 : Int))), iv (↑i : Int), iv (↑bks : Int), Value.bool (decide ((↑i : Int) < (↑bks : Int))), J1 77, J1 78, J7 79, J7 80, J7 81, J7 82, J7 83, J7 84, J7 85, J7 86, J7 87, pv ct.p 0, iv ((40960 : Int) + (↑o : Int)), uv (hgK κ), uv (hgK κ), Value.bool !decide (hgK κ = hgK κ), iv (↑i : Int), iv ((↑i : Int) + (1 : Int)), uv ((↑i : Int) + (1 : Int)), iv (↑i : Int), Value.slice va nv vc, iv (↑nv : Int), Value.bool (decide ((↑i : Int) < (↑nv : Int))), J2 100, J2 101, J2 102, J2 103, J2 104, J1 105, J1 106, J1 107, J1 108, tu, tu, tu, tu, tu, tu, tu, tu, tu, tu, tu, tu, tu, tu, tu, tu, tu, tu, tu, tu, tu, tu, tu, tu, tu, tu, tu, tu, tu, tu, tu, tu, tu, tu, tu, tu, tu, tu, tu, tu, tu, tu, tu, tu, tu, tu, tu, tu, tu, tu, tu, tu, tu, tu, tu, tu, tu, tu, tu, tu, tu, tu, tu, tu, tu, tu, tu, tu, tu, tu, tu, tu, tu, tu, tu, tu]) (L' := [CTP κ ct h (rI κ i) R M, A, TyP te ta tc]) (by kernel_rfl) rfl ?_)
    have hwM := writeMK_d oki (40960 + (o : Int)) (vjI V nv i) ⟨by omega, by omega⟩ (Or.inr (by omega)) hvo (by rw [hM, hci]; omega)
    rw [hM, hci, Int.toNat_natCast] at hwM
    (focus
      refine Xg.at_region ?_
      refine Xg.ops_op (by kernel_rfl) (Xg.opx_pure ((pv ct.p 0)) rfl (fun _ => by kernel_rfl) ?_)
      refine Xg.ops_op (by kernel_rfl) (Xg.opx_pure ((iv ((40960 : Int) + (↑o : Int)))) rfl (fun _ => by kernel_rfl) ?_)
      refine Xg.ops_op (by kernel_rfl) (Xg.opx_pure ((uv (vjI V nv i))) rfl (fun _ => by kernel_rfl) ?_)
      refine Xg.ops_op (by kernel_rfl) (Xg.opx_call1' [0] [CTP κ ct h (rI κ i) R (M.set (posK κ o i) (ramV κ (vjI V nv i))), A, TyP te ta tc] (fun _ => by kernel_rfl) (@hwM ) (by kernel_rfl) (by kernel_rfl) (by kernel_rfl) ?_)
      refine Xg.ops_nil ?_
      refine Xg.at_inBlock ?_
      refine Xg.at_region ?_
      refine Xg.ops_op (by kernel_rfl) (Xg.opx_pure ((iv (↑i : Int))) rfl (fun _ => by kernel_rfl) ?_)
      refine Xg.ops_op (by kernel_rfl) (Xg.opx_int .i64 (IntKind.wrap .i64 (((↑i : Int) + (1 : Int)))) rfl (fun _ => by kernel_rfl) (Xg.wrap_i64_in (by omega)) ?_)
      refine Xg.ops_op (by kernel_rfl) (Xg.opx_pure ((iv ((↑i : Int) + (1 : Int)))) rfl (fun _ => by kernel_rfl) ?_)
      refine Xg.ops_nil ?_
      refine Xg.at_inLoop ?_)
    (focus
      refine Xg.at_keep [0, 1, 2] (by kernel_rfl) ?_
      refine Xs.same ?_ (fun J9 => ih (((i + 1, M.set (posK κ o i) (ramV κ (vjI V nv i)), i)), J9) ?_ ?_) (by kernel_rfl))
    · rfl
    · have hpl := posK_lt hlt ho8 hmm
      refine ⟨hlt, by rw [List.length_set]; exact hM, isB_set _ hB (ramV_ok κ _ hvo), fun j hj => ?_, (by show i ≤ 3; omega)⟩
      show (M.set (posK κ o i) (ramV κ (vjI V nv i))).getD (posK κ o j) 0 = if j < i + 1 then ramV κ (vjI V nv j) else 0
      rw [getD_set _ _ _ _ (by omega)]
      by_cases e : j = i
      · subst e; rw [if_pos rfl, if_pos (Nat.lt_succ_self _)]
      · rw [if_neg (posK_ne hlt hj e hmm), hf j hj]
        by_cases e2 : j < i
        · rw [if_pos e2, if_pos (by omega)]
        · rw [if_neg e2, if_neg (by omega)]
    · show bks - (i + 1) < bks - i; omega
  clear ih
  obtain rfl : bks = i := by omega
  have hF : ∀ j, j < bks → M.getD (posK κ o j) 0 = ramV κ (vjI V nv j) := fun j hj => by rw [hf j hj, if_pos hj]
  clear hf
  (focus
    refine Xg.at_seq ?_
    refine Xg.at_seq ?_
    refine Xg.at_region ?_
    refine Xg.ops_op (by kernel_rfl) (Xg.opx_pure ((iv (↑bks : Int))) rfl (fun _ => by kernel_rfl) ?_)
    refine Xg.ops_op (by kernel_rfl) (Xg.opx_pure ((iv (↑bks : Int))) rfl (fun _ => by kernel_rfl) ?_)
    refine Xg.ops_op (by kernel_rfl) (Xg.opx_pure (.bool (decide ((((↑bks : Int)) : Int) < ((↑bks : Int))))) rfl (fun _ => by kernel_rfl) ?_)
    refine Xg.ops_nil ?_
    refine Xg.at_false (t := decide (((↑bks : Int) < (↑bks : Int)))) (by kernel_rfl) (decide_eq_false (by omega)) ?_
    refine Xg.at_exit rfl ?_
    refine Xg.at_seq ?_
    refine Xg.at_seq ?_
    refine Xg.at_region ?_
    refine Xg.ops_op (by kernel_rfl) (Xg.opx_pure ((iv 0)) rfl (fun _ => by kernel_rfl) ?_)
    refine Xg.ops_nil ?_
    refine Xg.at_block ?_)
  (focus
    refine Xg.at_rounds_inv (α := (Nat × Nat) × (Nat → Value)) (fun x => ((fun y => y.1 ≤ bks ∧ y.2 ≤ 3 ∧ (y.1 = 0 ∨ y.2 + 1 = y.1)) : (Nat × Nat) → Prop) x.1) (fun x => ((fun y => bks - y.1) : (Nat × Nat) → Nat) x.1) (fun x => Xg.headT [iv w, iv cd, Value.slice va nv vc, iv at0, iv sh, tu, tu, tu, tu, tu, J1 10, iv t, iv rr, iv (↑bks : Int), pv ct.p 0, iv 0, Value.bool !decide (t = (9 : Int)), iv ((40960 : Int) + (↑o : Int)), uv (hgK κ), iv (↑bks : Int), J1 20, iv 0, tu, tu, tu, Value.slice ta (10 : Nat) tc, iv w, iv (↑q9 : Int), iv ((5 : Int) + (↑q9 : Int)), Value.pointer (some (Addr.mk (blk ta) (offA ta + ((5 : Nat) + q9)) none)), iv t, iv t, J9 (32 : Nat), J9 (33 : Nat), J9 (34 : Nat), J9 (35 : Nat), J9 (36 : Nat), J9 (37 : Nat), J9 (38 : Nat), J9 (39 : Nat), J9 (40 : Nat), Value.tuple #[pv ct.p 0, iv 0], iv t, iv rr, Value.agg #[iv t, iv 0, iv rr, iv 0, iv 0, Value.slice none (0 : Nat) (0 : Nat), Value.slice none (0 : Nat) (0 : Nat), Value.bool false], Value.slice la (32768 : Nat) (32768 : Nat), Value.tuple #[pv ct.p 0, iv 0], pv ct.p 0, iv 0, pv ct.p 0, Value.bool false, Value.bool false, iv 0, Value.bool false, Value.bool false, iv t, Value.bool !decide (t = (9 : Int)), iv at0, iv (↑o : Int), iv ((40960 : Int) + (↑o : Int)), Value.bool !decide (t = (9 : Int)), pv ct.p 0, iv ((40960 : Int) + (↑o : Int)), tu, pv ct.p 0, iv ((40960 : Int) + (↑o : Int)), uv 255, Value.bool false, pv ct.p 0, tu, pv ct.p 0, tu, iv t, Value.bool (decide (t = (6 : Int))), iv (↑bks : Int), iv (↑bks : Int), Value.bool (decide ((↑bks : Int) < (↑bks : Int))), J1 77, J1 78, J1 79, J1 80, J1 81, J1 82, J1 83, J1 84, J1 85, J1 86, J1 87, J1 88, J1 89, J1 90, J1 91, J1 92, J1 93, J1 94, J1 95, J1 96, J1 97, J1 98, J1 99, J1 100, J1 101, J1 102, J1 103, J1 104, J1 105, J1 106, J1 107, J1 108, tu, tu, tu, tu, tu, tu, tu, tu, tu, tu, tu, tu, tu, tu, tu, tu, tu, tu, tu, tu, tu, tu, tu, tu, tu, tu, tu, tu, tu, tu, tu, tu, tu, tu, tu, tu, tu, tu, tu, tu, tu, tu, tu, tu, tu, tu, tu, tu, tu, tu, tu, tu, tu, tu, tu, tu, tu, tu, tu, tu, tu, tu, tu, tu, tu, tu, tu, tu, tu, tu, tu, tu, tu, tu, tu, tu] [10, 22, 109, 110, 111, 112, 113, 114, 115, 116, 117, 118, 119, 120, 121, 122, 123, 124, 125, 126, 127, 128, 129, 130, 131, 132, 133, 134, 135, 136, 137, 138, 139, 140, 141, 142, 143] (((fun y => [(21, .int .i64 (y.1 : Nat))]) : (Nat × Nat) → List (Nat × Go.Value)) x.1) x.2) (fun x => ((fun y => [CTP κ ct h (rI κ y.2) R M, A, TyP te ta tc]) : (Nat × Nat) → List Go.Sl.HP) x.1) (((0, p)), fun j9 => ([iv w, iv cd, Value.slice va nv vc, iv at0, iv sh, tu, tu, tu, tu, tu, J1 10, iv t, iv rr, iv (↑bks : Int), pv ct.p 0, iv 0, Value.bool !decide (t = (9 : Int)), iv ((40960 : Int) + (↑o : Int)), uv (hgK κ), iv (↑bks : Int), J1 20, iv 0, tu, tu, tu, Value.slice ta (10 : Nat) tc, iv w, iv (↑q9 : Int), iv ((5 : Int) + (↑q9 : Int)), Value.pointer (some (Addr.mk (blk ta) (offA ta + ((5 : Nat) + q9)) none)), iv t, iv t, J9 (32 : Nat), J9 (33 : Nat), J9 (34 : Nat), J9 (35 : Nat), J9 (36 : Nat), J9 (37 : Nat), J9 (38 : Nat), J9 (39 : Nat), J9 (40 : Nat), Value.tuple #[pv ct.p 0, iv 0], iv t, iv rr, Value.agg #[iv t, iv 0, iv rr, iv 0, iv 0, Value.slice none (0 : Nat) (0 : Nat), Value.slice none (0 : Nat) (0 : Nat), Value.bool false], Value.slice la (32768 : Nat) (32768 : Nat), Value.tuple #[pv ct.p 0, iv 0], pv ct.p 0, iv 0, pv ct.p 0, Value.bool false, Value.bool false, iv 0, Value.bool false, Value.bool false, iv t, Value.bool !decide (t = (9 : Int)), iv at0, iv (↑o : Int), iv ((40960 : Int) + (↑o : Int)), Value.bool !decide (t = (9 : Int)), pv ct.p 0, iv ((40960 : Int) + (↑o : Int)), tu, pv ct.p 0, iv ((40960 : Int) + (↑o : Int)), uv 255, Value.bool false, pv ct.p 0, tu, pv ct.p 0, tu, iv t, Value.bool (decide (t = (6 : Int))), iv (↑bks : Int), iv (↑bks : Int), Value.bool (decide ((↑bks : Int) < (↑bks : Int))), J1 77, J1 78, J1 79, J1 80, J1 81, J1 82, J1 83, J1 84, J1 85, J1 86, J1 87, J1 88, J1 89, J1 90, J1 91, J1 92, J1 93, J1 94, J1 95, J1 96, J1 97, J1 98, J1 99, J1 100, J1 101, J1 102, J1 103, J1 104, J1 105, J1 106, J1 107, J1 108, tu, tu, tu, tu, tu, tu, tu, tu, tu, tu, tu, tu, tu, tu, tu, tu, tu, tu, tu, tu, tu, tu, tu, tu, tu, tu, tu, tu, tu, tu, tu, tu, tu, tu, tu, tu, tu, tu, tu, tu, tu, tu, tu, tu, tu, tu, tu, tu, tu, tu, tu, tu, tu, tu, tu, tu, tu, tu, tu, tu, tu, tu, tu, tu, tu, tu, tu, tu, tu, tu, tu, tu, tu, tu, tu, tu] : List Value).getD j9 undef) (by kernel_rfl) (by kernel_rfl) ?_ ?_)
  · exact ⟨Nat.zero_le _, hp, Or.inl rfl⟩
  rintro ⟨⟨i, p2⟩, J3⟩ hI ih
  obtain ⟨hi2, hp2, hp3⟩ := hI
  dsimp only at hi2 hp2 hp3
  (focus
    refine Xg.At.same (T' := [iv w, iv cd, Value.slice va nv vc, iv at0, iv sh, tu, tu, tu, tu, tu, J3 10, iv t, iv rr, iv (↑bks : Int), pv ct.p 0, iv 0, Value.bool !decide (t = (9 : Int)), iv ((40960 : Int) + (↑o : Int)), uv (hgK κ), iv (↑bks : Int), J1 20, iv (↑i : Int), J3 22, tu, tu, Value.slice ta (10 : Nat) tc, iv w, iv (↑q9 : Int), iv ((5 : Int) + (↑q9 : Int)), Value.pointer (some (Addr.mk (blk ta) (offA ta + ((5 : Nat) + q9)) none)), iv t, iv t, J9 (32 : Nat), J9 (33 : Nat), J9 (34 : Nat), J9 (35 : Nat), J9 (36 : Nat), J9 (37 : Nat), J9 (38 : Nat), J9 (39 : Nat), J9 (40 : Nat), Value.tuple #[pv ct.p 0, iv 0], iv t, iv rr, Value.agg #[iv t, iv 0, iv rr, iv 0, iv 0, Value.slice none (0 : Nat) (0 : Nat), Value.slice none (0 : Nat) (0 : Nat), Value.bool false], Value.slice la (32768 : Nat) (32768 : Nat), Value.tuple #[pv ct.p 0, iv 0], pv ct.p 0, iv 0, pv ct.p 0, Value.bool false, Value.bool false, iv 0, Value.bool false, Value.bool false, iv t, Value.bool !decide (t = (9 : Int)), iv at0, iv (↑o : Int), iv ((40960 : Int) + (↑o : Int)), Value.bool !decide (t = (9 : Int)), pv ct.p 0, iv ((40960 : Int) + (↑o : Int)), tu, pv ct.p 0, iv ((40960 : Int) + (↑o : Int)), uv 255, Value.bool false, pv ct.p 0, tu, pv ct.p 0, tu, iv t, Value.bool (decide (t = (6 : Int))), iv (↑bks : Int), iv (↑bks : Int), Value.bool (decide ((↑bks : Int) < (↑bks : Int))), J1 77, J1 78, J1 79, J1 80, J1 81, J1 82, J1 83, J1 84, J1 85, J1 86, J1 87, J1 88, J1 89, J1 90, J1 91, J1 92, J1 93, J1 94, J1 95, J1 96, J1 97, J1 98, J1 99, J1 100, J1 101, J1 102, J1 103, J1 104, J1 105, J1 106, J1 107, J1 108, J3 109, J3 110, J3 111, J3 112, J3 113, J3 114, J3 115, J3 116, J3 117, J3 118, J3 119, J3 120, J3 121, J3 122, J3 123, J3 124, J3 125, J3 126, J3 127, J3 128, J3 129, J3 130, J3 131, J3 132, J3 133, J3 134, J3 135, J3 136, J3 137, J3 138, J3 139, J3 140, J3 141, J3 142, J3 143, tu, tu, tu, tu, tu, tu, tu, tu, tu, tu, tu, tu, tu, tu, tu, tu, tu, tu, tu, tu, tu, tu, tu, tu, tu, tu, tu, tu, tu, tu, tu, tu, tu, tu, tu, tu, tu, tu, tu, tu, tu]) (L' := [CTP κ ct h (rI κ ((i, p2), J3).fst.snd) R M, A, TyP te ta tc]) (by kernel_rfl) rfl ?_)
  by_cases hlt : i < bks
  · have hvo := vjI_ok V nv i hVl hVo (by omega)
    have hbb := rv_v κ (vjI V nv i) hvo
    have hfi := hF i hlt
    have hci := cell_on hkk i bks o mn hlt hb4.2 hmm ho8
    have okp := okX (rI κ p2) M (rI_ok hkk hp2).1 hM hB
    have oki := okX (rI κ i) M (rI_ok hkk (by omega)).1 hM hB
    have hrd := readK_d oki (40960 + (o : Int)) ⟨by omega, by omega⟩
    rw [read_onK κ _ h.bk R M _ _ (by omega) (by rw [hM]; exact hci), hfi, hbb] at hrd
    (focus
      refine Xg.at_seq ?_
      refine Xg.at_seq ?_
      refine Xg.at_region ?_
      refine Xg.ops_op (by kernel_rfl) (Xg.opx_pure ((iv (↑i : Int))) rfl (fun _ => by kernel_rfl) ?_)
      refine Xg.ops_op (by kernel_rfl) (Xg.opx_pure ((iv (↑bks : Int))) rfl (fun _ => by kernel_rfl) ?_)
      refine Xg.ops_op (by kernel_rfl) (Xg.opx_pure (.bool (decide ((((↑i : Int)) : Int) < ((↑bks : Int))))) rfl (fun _ => by kernel_rfl) ?_)
      refine Xg.ops_nil ?_
      refine Xg.at_true (t := decide (((↑i : Int) < (↑bks : Int)))) (by kernel_rfl) (decide_eq_true (by omega)) ?_
      refine Xg.at_skip ?_
      refine Xg.at_seq ?_
      refine Xg.at_block ?_
      refine Xg.at_seq ?_
      refine Xg.at_seq ?_)
    (focus
      refine Xg.at_cut2 (α := (Unit) × (Nat → Value)) (fun x9 => ((fun _ => True) : (Unit) → Prop) x9.1) (fun x9 => Xg.headT [iv w, iv cd, Value.slice va nv vc, iv at0, iv sh, tu, tu, tu, tu, tu, J3 10, iv t, iv rr, iv (↑bks : Int), pv ct.p 0, iv 0, Value.bool !decide (t = (9 : Int)), iv ((40960 : Int) + (↑o : Int)), uv (hgK κ), iv (↑bks : Int), J1 20, iv (↑i : Int), J3 22, tu, tu, Value.slice ta (10 : Nat) tc, iv w, iv (↑q9 : Int), iv ((5 : Int) + (↑q9 : Int)), Value.pointer (some (Addr.mk (blk ta) (offA ta + ((5 : Nat) + q9)) none)), iv t, iv t, J9 (32 : Nat), J9 (33 : Nat), J9 (34 : Nat), J9 (35 : Nat), J9 (36 : Nat), J9 (37 : Nat), J9 (38 : Nat), J9 (39 : Nat), J9 (40 : Nat), Value.tuple #[pv ct.p 0, iv 0], iv t, iv rr, Value.agg #[iv t, iv 0, iv rr, iv 0, iv 0, Value.slice none (0 : Nat) (0 : Nat), Value.slice none (0 : Nat) (0 : Nat), Value.bool false], Value.slice la (32768 : Nat) (32768 : Nat), Value.tuple #[pv ct.p 0, iv 0], pv ct.p 0, iv 0, pv ct.p 0, Value.bool false, Value.bool false, iv 0, Value.bool false, Value.bool false, iv t, Value.bool !decide (t = (9 : Int)), iv at0, iv (↑o : Int), iv ((40960 : Int) + (↑o : Int)), Value.bool !decide (t = (9 : Int)), pv ct.p 0, iv ((40960 : Int) + (↑o : Int)), tu, pv ct.p 0, iv ((40960 : Int) + (↑o : Int)), uv 255, Value.bool false, pv ct.p 0, tu, pv ct.p 0, tu, iv t, Value.bool (decide (t = (6 : Int))), iv (↑bks : Int), iv (↑bks : Int), Value.bool (decide ((↑bks : Int) < (↑bks : Int))), J1 77, J1 78, J1 79, J1 80, J1 81, J1 82, J1 83, J1 84, J1 85, J1 86, J1 87, J1 88, J1 89, J1 90, J1 91, J1 92, J1 93, J1 94, J1 95, J1 96, J1 97, J1 98, J1 99, J1 100, J1 101, J1 102, J1 103, J1 104, J1 105, J1 106, J1 107, J1 108, iv (↑i : Int), iv (↑bks : Int), Value.bool (decide ((↑i : Int) < (↑bks : Int))), J3 112, J3 113, J3 114, J3 115, J3 116, J3 117, J3 118, J3 119, J3 120, J3 121, J3 122, J3 123, J3 124, J3 125, J3 126, J3 127, J3 128, J3 129, J3 130, J3 131, J3 132, J3 133, J3 134, J3 135, J3 136, J3 137, J3 138, J3 139, J3 140, J3 141, J3 142, J3 143, tu, tu, tu, tu, tu, tu, tu, tu, tu, tu, tu, tu, tu, tu, tu, tu, tu, tu, tu, tu, tu, tu, tu, tu, tu, tu, tu, tu, tu, tu, tu, tu, tu, tu, tu, tu, tu, tu, tu, tu, tu] [114, 115, 116, 117, 118, 119, 120, 121, 122] (((fun _ => []) : (Unit) → List (Nat × Go.Value)) x9.1) x9.2) (fun x9 => ((fun _ => [CTP κ ct h (rI κ i) R M, A, TyP te ta tc]) : (Unit) → List Go.Sl.HP) x9.1) (fun kk hk => ?_) ?_)
    · by_cases ht6 : t = 6
      · (focus
          refine Xg.at_region ?_
          refine Xg.ops_op (by kernel_rfl) (Xg.opx_pure ((Value.bool !decide (t = (9 : Int)))) rfl (fun _ => by kernel_rfl) ?_)
          refine Xg.ops_op (by kernel_rfl) (Xg.opx_pure ((Value.bool !decide (t = (9 : Int)))) rfl (fun _ => by kernel_rfl) ?_)
          refine Xg.ops_flag (j := 115) (c := (!decide (t = (9 : Int)))) (by kernel_rfl) (fun _ => ?_) (fun xh3 => absurd xh3 (by rw [decide_eq_false (p := (t = (9 : Int))) (by omega)]; decide))
          refine Xg.ops_op (by kernel_rfl) (Xg.opx_pure ((iv t)) rfl (fun _ => by kernel_rfl) ?_)
          refine Xg.ops_op (by kernel_rfl) (Xg.opx_pure (.bool (!decide ((t : Int) = ((6 : Int))))) rfl (fun _ => by kernel_rfl) ?_)
          refine Xg.ops_flag (j := 117) (c := (!decide (t = (6 : Int)))) (by kernel_rfl) (fun xh3 => absurd xh3 (by rw [decide_eq_true (p := (t = (6 : Int))) (by omega)]; decide)) (fun _ => ?_)
          refine Xg.ops_op (by kernel_rfl) (Xg.opx_pure ((Value.bool false)) rfl (fun _ => by kernel_rfl) ?_)
          refine Xg.ops_nil ?_
          refine Xg.at_false (t := false) (by kernel_rfl) rfl ?_
          refine Xg.at_skip ?_)
        dsimp only
        rw [show rI κ p2 = rI κ i by unfold rI; rw [if_pos (by omega), if_pos (by omega)]]
        (focus
          refine Xg.at_keep [0, 1, 2] (by kernel_rfl) ?_
          refine Xg.At.same (by kernel_rfl) ?_ (hk ((()), fun j9 => ([iv w, iv cd, Value.slice va nv vc, iv at0, iv sh, tu, tu, tu, tu, tu, J3 (10 : Nat), iv t, iv rr, iv (↑bks : Int), pv ct.p 0, iv 0, Value.bool !decide (t = (9 : Int)), iv ((40960 : Int) + (↑o : Int)), uv (hgK κ), iv (↑bks : Int), J1 (20 : Nat), iv (↑i : Int), J3 (22 : Nat), tu, tu, Value.slice ta (10 : Nat) tc, iv w, iv (↑q9 : Int), iv ((5 : Int) + (↑q9 : Int)), Value.pointer (some (Addr.mk (blk ta) (offA ta + ((5 : Nat) + q9)) none)), iv t, iv t, J9 (32 : Nat), J9 (33 : Nat), J9 (34 : Nat), J9 (35 : Nat), J9 (36 : Nat), J9 (37 : Nat), J9 (38 : Nat), J9 (39 : Nat), J9 (40 : Nat), Value.tuple #[pv ct.p 0, iv 0], iv t, iv rr, Value.agg #[iv t, iv 0, iv rr, iv 0, iv 0, Value.slice none (0 : Nat) (0 : Nat), Value.slice none (0 : Nat) (0 : Nat), Value.bool false], Value.slice la (32768 : Nat) (32768 : Nat), Value.tuple #[pv ct.p 0, iv 0], pv ct.p 0, iv 0, pv ct.p 0, Value.bool false, Value.bool false, iv 0, Value.bool false, Value.bool false, iv t, Value.bool !decide (t = (9 : Int)), iv at0, iv (↑o : Int), iv ((40960 : Int) + (↑o : Int)), Value.bool !decide (t = (9 : Int)), pv ct.p 0, iv ((40960 : Int) + (↑o : Int)), tu, pv ct.p 0, iv ((40960 : Int) + (↑o : Int)), uv 255, Value.bool false, pv ct.p 0, tu, pv ct.p 0, tu, iv t, Value.bool (decide (t = (6 : Int))), iv (↑bks : Int), iv (↑bks : Int), Value.bool (decide ((↑bks : Int) < (↑bks : Int))), J1 (77 : Nat), J1 (78 : Nat), J1 (79 : Nat), J1 (80 : Nat), J1 (81 : Nat), J1 (82 : Nat), J1 (83 : Nat), J1 (84 : Nat), J1 (85 : Nat), J1 (86 : Nat), J1 (87 : Nat), J1 (88 : Nat), J1 (89 : Nat), J1 (90 : Nat), J1 (91 : Nat), J1 (92 : Nat), J1 (93 : Nat), J1 (94 : Nat), J1 (95 : Nat), J1 (96 : Nat), J1 (97 : Nat), J1 (98 : Nat), J1 (99 : Nat), J1 (100 : Nat), J1 (101 : Nat), J1 (102 : Nat), J1 (103 : Nat), J1 (104 : Nat), J1 (105 : Nat), J1 (106 : Nat), J1 (107 : Nat), J1 (108 : Nat), iv (↑i : Int), iv (↑bks : Int), Value.bool (decide ((↑i : Int) < (↑bks : Int))), J3 (112 : Nat), J3 (113 : Nat), Value.bool !decide (t = (9 : Int)), Value.bool true, iv t, Value.bool false, Value.bool false, J3 (119 : Nat), J3 (120 : Nat), J3 (121 : Nat), J3 (122 : Nat), J3 (123 : Nat), J3 (124 : Nat), J3 (125 : Nat), J3 (126 : Nat), J3 (127 : Nat), J3 (128 : Nat), J3 (129 : Nat), J3 (130 : Nat), J3 (131 : Nat), J3 (132 : Nat), J3 (133 : Nat), J3 (134 : Nat), J3 (135 : Nat), J3 (136 : Nat), J3 (137 : Nat), J3 (138 : Nat), J3 (139 : Nat), J3 (140 : Nat), J3 (141 : Nat), J3 (142 : Nat), J3 (143 : Nat), tu, tu, tu, tu, tu, tu, tu, tu, tu, tu, tu, tu, tu, tu, tu, tu, tu, tu, tu, tu, tu, tu, tu, tu, tu, tu, tu, tu, tu, tu, tu, tu, tu, tu, tu, tu, tu, tu, tu, tu, tu] : List Value).getD j9 undef) ?_))
        · rfl
        · trivial
      · have hwB := writeRK_d okp 16384 (i : Int) (by decide) ⟨by omega, by omega⟩
        rw [reg_bank hkk (by omega) (by omega)] at hwB
        (focus
          refine Xg.at_region ?_
          refine Xg.ops_op (by kernel_rfl) (Xg.opx_pure ((Value.bool !decide (t = (9 : Int)))) rfl (fun _ => by kernel_rfl) ?_)
          refine Xg.ops_op (by kernel_rfl) (Xg.opx_pure ((Value.bool !decide (t = (9 : Int)))) rfl (fun _ => by kernel_rfl) ?_)
          refine Xg.ops_flag (j := 115) (c := (!decide (t = (9 : Int)))) (by kernel_rfl) (fun _ => ?_) (fun xh3 => absurd xh3 (by rw [decide_eq_false (p := (t = (9 : Int))) (by omega)]; decide))
          refine Xg.ops_op (by kernel_rfl) (Xg.opx_pure ((iv t)) rfl (fun _ => by kernel_rfl) ?_)
          refine Xg.ops_op (by kernel_rfl) (Xg.opx_pure (.bool (!decide ((t : Int) = ((6 : Int))))) rfl (fun _ => by kernel_rfl) ?_)
          refine Xg.ops_flag (j := 117) (c := (!decide (t = (6 : Int)))) (by kernel_rfl) (fun _ => ?_) (fun xh3 => absurd xh3 (by rw [decide_eq_false (p := (t = (6 : Int))) (by omega)]; decide))
          refine Xg.ops_op (by kernel_rfl) (Xg.opx_pure ((Value.bool true)) rfl (fun _ => by kernel_rfl) ?_)
          refine Xg.ops_nil ?_
          refine Xg.at_true (t := true) (by kernel_rfl) rfl ?_
          refine Xg.at_region ?_
          refine Xg.ops_op (by kernel_rfl) (Xg.opx_pure ((pv ct.p 0)) rfl (fun _ => by kernel_rfl) ?_)
          refine Xg.ops_op (by kernel_rfl) (Xg.opx_pure ((iv (↑i : Int))) rfl (fun _ => by kernel_rfl) ?_)
          refine Xg.ops_op (by kernel_rfl) (Xg.opx_int .u8 (IntKind.wrap .u8 (((↑i : Int)))) rfl (fun _ => by kernel_rfl) (Xg.wrap_u8_in (by omega)) ?_)
          refine Xg.ops_op (by kernel_rfl) (Xg.opx_call1' [0] [CTP κ ct h (rI κ i) R M, A, TyP te ta tc] (fun _ => by kernel_rfl) (@hwB ) (by kernel_rfl) (by kernel_rfl) (by kernel_rfl) ?_)
          refine Xg.ops_nil ?_)
        (focus
          refine Xg.at_keep [0, 1, 2] (by kernel_rfl) ?_
          refine Xg.At.same (by kernel_rfl) ?_ (hk ((()), fun j9 => ([iv w, iv cd, Value.slice va nv vc, iv at0, iv sh, tu, tu, tu, tu, tu, J3 10, iv t, iv rr, iv (↑bks : Int), pv ct.p 0, iv 0, Value.bool !decide (t = (9 : Int)), iv ((40960 : Int) + (↑o : Int)), uv (hgK κ), iv (↑bks : Int), J1 20, iv (↑i : Int), J3 22, tu, tu, Value.slice ta (10 : Nat) tc, iv w, iv (↑q9 : Int), iv ((5 : Int) + (↑q9 : Int)), Value.pointer (some (Addr.mk (blk ta) (offA ta + ((5 : Nat) + q9)) none)), iv t, iv t, J9 (32 : Nat), J9 (33 : Nat), J9 (34 : Nat), J9 (35 : Nat), J9 (36 : Nat), J9 (37 : Nat), J9 (38 : Nat), J9 (39 : Nat), J9 (40 : Nat), Value.tuple #[pv ct.p 0, iv 0], iv t, iv rr, Value.agg #[iv t, iv 0, iv rr, iv 0, iv 0, Value.slice none (0 : Nat) (0 : Nat), Value.slice none (0 : Nat) (0 : Nat), Value.bool false], Value.slice la (32768 : Nat) (32768 : Nat), Value.tuple #[pv ct.p 0, iv 0], pv ct.p 0, iv 0, pv ct.p 0, Value.bool false, Value.bool false, iv 0, Value.bool false, Value.bool false, iv t, Value.bool !decide (t = (9 : Int)), iv at0, iv (↑o : Int), iv ((40960 : Int) + (↑o : Int)), Value.bool !decide (t = (9 : Int)), pv ct.p 0, iv ((40960 : Int) + (↑o : Int)), tu, pv ct.p 0, iv ((40960 : Int) + (↑o : Int)), uv 255, Value.bool false, pv ct.p 0, tu, pv ct.p 0, tu, iv t, Value.bool (decide (t = (6 : Int))), iv (↑bks : Int), iv (↑bks : Int), Value.bool (decide ((↑bks : Int) < (↑bks : Int))), J1 77, J1 78, J1 79, J1 80, J1 81, J1 82, J1 83, J1 84, J1 85, J1 86, J1 87, J1 88, J1 89, J1 90, J1 91, J1 92, J1 93, J1 94, J1 95, J1 96, J1 97, J1 98, J1 99, J1 100, J1 101, J1 102, J1 103, J1 104, J1 105, J1 106, J1 107, J1 108, iv (↑i : Int), iv (↑bks : Int), Value.bool (decide ((↑i : Int) < (↑bks : Int))), J3 112, J3 113, Value.bool !decide (t = (9 : Int)), Value.bool true, iv t, Value.bool true, Value.bool true, pv ct.p 0, iv (↑i : Int), uv (↑i : Int), tu, J3 123, J3 124, J3 125, J3 126, J3 127, J3 128, J3 129, J3 130, J3 131, J3 132, J3 133, J3 134, J3 135, J3 136, J3 137, J3 138, J3 139, J3 140, J3 141, J3 142, J3 143, tu, tu, tu, tu, tu, tu, tu, tu, tu, tu, tu, tu, tu, tu, tu, tu, tu, tu, tu, tu, tu, tu, tu, tu, tu, tu, tu, tu, tu, tu, tu, tu, tu, tu, tu, tu, tu, tu, tu, tu, tu] : List Value).getD j9 undef) ?_))
        · rfl
        · trivial
    rintro ⟨u2, J8⟩ hk0
    clear hk0
    (focus
      refine Xg.At.same (T' := [iv w, iv cd, Value.slice va nv vc, iv at0, iv sh, tu, tu, tu, tu, tu, J3 10, iv t, iv rr, iv (↑bks : Int), pv ct.p 0, iv 0, Value.bool !decide (t = (9 : Int)), iv ((40960 : Int) + (↑o : Int)), uv (hgK κ), iv (↑bks : Int), J1 20, iv (↑i : Int), J3 22, tu, tu, Value.slice ta (10 : Nat) tc, iv w, iv (↑q9 : Int), iv ((5 : Int) + (↑q9 : Int)), Value.pointer (some (Addr.mk (blk ta) (offA ta + ((5 : Nat) + q9)) none)), iv t, iv t, J9 (32 : Nat), J9 (33 : Nat), J9 (34 : Nat), J9 (35 : Nat), J9 (36 : Nat), J9 (37 : Nat), J9 (38 : Nat), J9 (39 : Nat), J9 (40 : Nat), Value.tuple #[pv ct.p 0, iv 0], iv t, iv rr, Value.agg #[iv t, iv 0, iv rr, iv 0, iv 0, Value.slice none (0 : Nat) (0 : Nat), Value.slice none (0 : Nat) (0 : Nat), Value.bool false], Value.slice la (32768 : Nat) (32768 : Nat), Value.tuple #[pv ct.p 0, iv 0], pv ct.p 0, iv 0, pv ct.p 0, Value.bool false, Value.bool false, iv 0, Value.bool false, Value.bool false, iv t, Value.bool !decide (t = (9 : Int)), iv at0, iv (↑o : Int), iv ((40960 : Int) + (↑o : Int)), Value.bool !decide (t = (9 : Int)), pv ct.p 0, iv ((40960 : Int) + (↑o : Int)), tu, pv ct.p 0, iv ((40960 : Int) + (↑o : Int)), uv 255, Value.bool false, pv ct.p 0, tu, pv ct.p 0, tu, iv t, Value.bool (decide (t = (6 : Int))), iv (↑bks : Int), iv (↑bks : Int), Value.bool (decide ((↑bks : Int) < (↑bks : Int))), J1 77, J1 78, J1 79, J1 80, J1 81, J1 82, J1 83, J1 84, J1 85, J1 86, J1 87, J1 88, J1 89, J1 90, J1 91, J1 92, J1 93, J1 94, J1 95, J1 96, J1 97, J1 98, J1 99, J1 100, J1 101, J1 102, J1 103, J1 104, J1 105, J1 106, J1 107, J1 108, iv (↑i : Int), iv (↑bks : Int), Value.bool (decide ((↑i : Int) < (↑bks : Int))), J3 112, J3 113, J8 114, J8 115, J8 116, J8 117, J8 118, J8 119, J8 120, J8 121, J8 122, J3 123, J3 124, J3 125, J3 126, J3 127, J3 128, J3 129, J3 130, J3 131, J3 132, J3 133, J3 134, J3 135, J3 136, J3 137, J3 138, J3 139, J3 140, J3 141, J3 142, J3 143, tu, tu, tu, tu, tu, tu, tu, tu, tu, tu, tu, tu, tu, tu, tu, tu, tu, tu, tu, tu, tu, tu, tu, tu, tu, tu, tu, tu, tu, tu, tu, tu, tu, tu, tu, tu, tu, tu, tu, tu, tu]) (L' := [CTP κ ct h (rI κ i) R M, A, TyP te ta tc]) (by kernel_rfl) rfl ?_)
    (focus
      refine Xg.at_seq ?_
      refine Xg.at_region ?_
      refine Xg.ops_op (by kernel_rfl) (Xg.opx_pure ((iv (↑i : Int))) rfl (fun _ => by kernel_rfl) ?_)
      refine Xg.ops_op (by kernel_rfl) (Xg.opx_int .i64 (IntKind.wrap .i64 (((↑i : Int) + (1 : Int)))) rfl (fun _ => by kernel_rfl) (Xg.wrap_i64_in (by omega)) ?_)
      refine Xg.ops_op (by kernel_rfl) (Xg.opx_int .u8 (IntKind.wrap .u8 (((↑i : Int) + (1 : Int)))) rfl (fun _ => by kernel_rfl) (Xg.wrap_u8_in (by omega)) ?_)
      refine Xg.ops_op (by kernel_rfl) (Xg.opx_pure ((uv ((↑i : Int) + (1 : Int)))) rfl (fun _ => by kernel_rfl) ?_)
      refine Xg.ops_nil ?_
      refine Xg.at_seq ?_
      refine Xg.at_seq ?_
      refine Xg.at_region ?_
      refine Xg.ops_op (by kernel_rfl) (Xg.opx_pure ((iv (↑i : Int))) rfl (fun _ => by kernel_rfl) ?_)
      refine Xg.ops_op (by kernel_rfl) (Xg.opx_pure ((Value.slice va nv vc)) rfl (fun _ => by kernel_rfl) ?_)
      refine Xg.ops_op (by kernel_rfl) (Xg.opx_pure ((iv (↑nv : Int))) rfl (fun _ => by kernel_rfl) ?_)
      refine Xg.ops_op (by kernel_rfl) (Xg.opx_pure (.bool (decide ((((↑i : Int)) : Int) < ((↑nv : Int))))) rfl (fun _ => by kernel_rfl) ?_)
      refine Xg.ops_nil ?_)
    (focus
      refine Xg.at_cut (α := (Int) × (Nat → Value)) (fun x9 => ((fun v => vjI V nv i = v) : (Int) → Prop) x9.1) (fun x9 => Xg.headT [iv w, iv cd, Value.slice va nv vc, iv at0, iv sh, tu, tu, tu, tu, tu, J3 10, iv t, iv rr, iv (↑bks : Int), pv ct.p 0, iv 0, Value.bool !decide (t = (9 : Int)), iv ((40960 : Int) + (↑o : Int)), uv (hgK κ), iv (↑bks : Int), J1 20, iv (↑i : Int), uv ((↑i : Int) + (1 : Int)), tu, tu, Value.slice ta (10 : Nat) tc, iv w, iv (↑q9 : Int), iv ((5 : Int) + (↑q9 : Int)), Value.pointer (some (Addr.mk (blk ta) (offA ta + ((5 : Nat) + q9)) none)), iv t, iv t, J9 (32 : Nat), J9 (33 : Nat), J9 (34 : Nat), J9 (35 : Nat), J9 (36 : Nat), J9 (37 : Nat), J9 (38 : Nat), J9 (39 : Nat), J9 (40 : Nat), Value.tuple #[pv ct.p 0, iv 0], iv t, iv rr, Value.agg #[iv t, iv 0, iv rr, iv 0, iv 0, Value.slice none (0 : Nat) (0 : Nat), Value.slice none (0 : Nat) (0 : Nat), Value.bool false], Value.slice la (32768 : Nat) (32768 : Nat), Value.tuple #[pv ct.p 0, iv 0], pv ct.p 0, iv 0, pv ct.p 0, Value.bool false, Value.bool false, iv 0, Value.bool false, Value.bool false, iv t, Value.bool !decide (t = (9 : Int)), iv at0, iv (↑o : Int), iv ((40960 : Int) + (↑o : Int)), Value.bool !decide (t = (9 : Int)), pv ct.p 0, iv ((40960 : Int) + (↑o : Int)), tu, pv ct.p 0, iv ((40960 : Int) + (↑o : Int)), uv 255, Value.bool false, pv ct.p 0, tu, pv ct.p 0, tu, iv t, Value.bool (decide (t = (6 : Int))), iv (↑bks : Int), iv (↑bks : Int), Value.bool (decide ((↑bks : Int) < (↑bks : Int))), J1 77, J1 78, J1 79, J1 80, J1 81, J1 82, J1 83, J1 84, J1 85, J1 86, J1 87, J1 88, J1 89, J1 90, J1 91, J1 92, J1 93, J1 94, J1 95, J1 96, J1 97, J1 98, J1 99, J1 100, J1 101, J1 102, J1 103, J1 104, J1 105, J1 106, J1 107, J1 108, iv (↑i : Int), iv (↑bks : Int), Value.bool (decide ((↑i : Int) < (↑bks : Int))), J3 112, J3 113, J8 114, J8 115, J8 116, J8 117, J8 118, J8 119, J8 120, J8 121, J8 122, iv (↑i : Int), iv ((↑i : Int) + (1 : Int)), uv ((↑i : Int) + (1 : Int)), iv (↑i : Int), Value.slice va nv vc, iv (↑nv : Int), Value.bool (decide ((↑i : Int) < (↑nv : Int))), J3 130, J3 131, J3 132, J3 133, J3 134, J3 135, J3 136, J3 137, J3 138, J3 139, J3 140, J3 141, J3 142, J3 143, tu, tu, tu, tu, tu, tu, tu, tu, tu, tu, tu, tu, tu, tu, tu, tu, tu, tu, tu, tu, tu, tu, tu, tu, tu, tu, tu, tu, tu, tu, tu, tu, tu, tu, tu, tu, tu, tu, tu, tu, tu] [130, 131, 132, 133, 134] (((fun v => [(22, .int .u8 v)]) : (Int) → List (Nat × Go.Value)) x9.1) x9.2) (fun x9 => ((fun v => [CTP κ ct h (rI κ i) R M, A, TyP te ta tc]) : (Int) → List Go.Sl.HP) x9.1) (fun kk hk => ?_) ?_)
    · by_cases hiv : i < nv
      · (focus
          refine Xg.at_true (t := decide (((↑i : Int) < (↑nv : Int)))) (by kernel_rfl) (decide_eq_true (by omega)) ?_
          refine Xg.at_region ?_
          refine Xg.ops_op (by kernel_rfl) (Xg.opx_pure ((Value.slice va nv vc)) rfl (fun _ => by kernel_rfl) ?_)
          refine Xg.ops_op (by kernel_rfl) (Xg.opx_pure ((iv (↑i : Int))) rfl (fun _ => by kernel_rfl) ?_)
          refine Xg.ops_op (by kernel_rfl) (Xg.opx_rd 1 (.pointer (some (Addr.mk (Xg.blk va) (offA va + i) none))) rfl hV (by kernel_rfl) (Xg.run_ix_rd (elem := 3) (kd := .i64) (e := ((↑i : Int))) 1 i (offA va + i) (by kernel_rfl) (by kernel_rfl) (by kernel_rfl) (by kernel_rfl) rfl (by omega) (by simp only [List.length_map]; omega) (by omega)) ?_)
          refine Xg.ops_op (by kernel_rfl) (Xg.opx_rd 1 (iv (V.getD i (0 : Int))) rfl hV (by kernel_rfl) (Xg.run_load_rd (off0 := (offA va + i)) i (by kernel_rfl) (by omega) (Xg.get_ints (by omega)) (by kernel_rfl)) ?_)
          refine Xg.ops_op (by kernel_rfl) (Xg.opx_int .u8 (IntKind.wrap .u8 ((V.getD i (0 : Int)))) rfl (fun _ => by kernel_rfl) (Xg.wrap_u8_mod _) ?_)
          refine Xg.ops_op (by kernel_rfl) (Xg.opx_pure ((uv (V.getD i (0 : Int) % (256 : Int)))) rfl (fun _ => by kernel_rfl) ?_)
          refine Xg.ops_nil ?_)
        (focus
          refine Xg.at_keep [0, 1, 2] (by kernel_rfl) ?_
          refine Xg.At.same (by kernel_rfl) ?_ (hk (((V.getD i 0 % 256)), fun j9 => ([iv w, iv cd, Value.slice va nv vc, iv at0, iv sh, tu, tu, tu, tu, tu, J3 10, iv t, iv rr, iv (↑bks : Int), pv ct.p 0, iv 0, Value.bool !decide (t = (9 : Int)), iv ((40960 : Int) + (↑o : Int)), uv (hgK κ), iv (↑bks : Int), J1 20, iv (↑i : Int), uv (V.getD i (0 : Int) % (256 : Int)), tu, tu, Value.slice ta (10 : Nat) tc, iv w, iv (↑q9 : Int), iv ((5 : Int) + (↑q9 : Int)), Value.pointer (some (Addr.mk (blk ta) (offA ta + ((5 : Nat) + q9)) none)), iv t, iv t, J9 (32 : Nat), J9 (33 : Nat), J9 (34 : Nat), J9 (35 : Nat), J9 (36 : Nat), J9 (37 : Nat), J9 (38 : Nat), J9 (39 : Nat), J9 (40 : Nat), Value.tuple #[pv ct.p 0, iv 0], iv t, iv rr, Value.agg #[iv t, iv 0, iv rr, iv 0, iv 0, Value.slice none (0 : Nat) (0 : Nat), Value.slice none (0 : Nat) (0 : Nat), Value.bool false], Value.slice la (32768 : Nat) (32768 : Nat), Value.tuple #[pv ct.p 0, iv 0], pv ct.p 0, iv 0, pv ct.p 0, Value.bool false, Value.bool false, iv 0, Value.bool false, Value.bool false, iv t, Value.bool !decide (t = (9 : Int)), iv at0, iv (↑o : Int), iv ((40960 : Int) + (↑o : Int)), Value.bool !decide (t = (9 : Int)), pv ct.p 0, iv ((40960 : Int) + (↑o : Int)), tu, pv ct.p 0, iv ((40960 : Int) + (↑o : Int)), uv 255, Value.bool false, pv ct.p 0, tu, pv ct.p 0, tu, iv t, Value.bool (decide (t = (6 : Int))), iv (↑bks : Int), iv (↑bks : Int), Value.bool (decide ((↑bks : Int) < (↑bks : Int))), J1 77, J1 78, J1 79, J1 80, J1 81, J1 82, J1 83, J1 84, J1 85, J1 86, J1 87, J1 88, J1 89, J1 90, J1 91, J1 92, J1 93, J1 94, J1 95, J1 96, J1 97, J1 98, J1 99, J1 100, J1 101, J1 102, J1 103, J1 104, J1 105, J1 106, J1 107, J1 108, iv (↑i : Int), iv (↑bks : Int), Value.bool (decide ((↑i : Int) < (↑bks : Int))), J3 112, J3 113, J8 114, J8 115, J8 116, J8 117, J8 118, J8 119, J8 120, J8 121, J8 122, iv (↑i : Int), iv ((↑i : Int) + (1 : Int)), uv ((↑i : Int) + (1 : Int)), iv (↑i : Int), Value.slice va nv vc, iv (↑nv : Int), Value.bool (decide ((↑i : Int) < (↑nv : Int))), Value.slice va nv vc, iv (↑i : Int), Value.pointer (some (Addr.mk (blk va) (offA va + i) none)), iv (V.getD i (0 : Int)), uv (V.getD i (0 : Int) % (256 : Int)), J3 135, J3 136, J3 137, J3 138, J3 139, J3 140, J3 141, J3 142, J3 143, tu, tu, tu, tu, tu, tu, tu, tu, tu, tu, tu, tu, tu, tu, tu, tu, tu, tu, tu, tu, tu, tu, tu, tu, tu, tu, tu, tu, tu, tu, tu, tu, tu, tu, tu, tu, tu, tu, tu, tu, tu] : List Value).getD j9 undef) ?_))
        · rfl
        · unfold vjI; rw [if_pos hiv]
      · (focus
          refine Xg.at_false (t := decide (((↑i : Int) < (↑nv : Int)))) (by kernel_rfl) (decide_eq_false (by omega)) ?_
          refine Xg.at_skip ?_)
        (focus
          refine Xg.at_keep [0, 1, 2] (by kernel_rfl) ?_
          refine Xg.At.same (by kernel_rfl) ?_ (hk ((((i : Int) + 1)), fun j9 => ([iv w, iv cd, Value.slice va nv vc, iv at0, iv sh, tu, tu, tu, tu, tu, J3 10, iv t, iv rr, iv (↑bks : Int), pv ct.p 0, iv 0, Value.bool !decide (t = (9 : Int)), iv ((40960 : Int) + (↑o : Int)), uv (hgK κ), iv (↑bks : Int), J1 20, iv (↑i : Int), uv ((↑i : Int) + (1 : Int)), tu, tu, Value.slice ta (10 : Nat) tc, iv w, iv (↑q9 : Int), iv ((5 : Int) + (↑q9 : Int)), Value.pointer (some (Addr.mk (blk ta) (offA ta + ((5 : Nat) + q9)) none)), iv t, iv t, J9 (32 : Nat), J9 (33 : Nat), J9 (34 : Nat), J9 (35 : Nat), J9 (36 : Nat), J9 (37 : Nat), J9 (38 : Nat), J9 (39 : Nat), J9 (40 : Nat), Value.tuple #[pv ct.p 0, iv 0], iv t, iv rr, Value.agg #[iv t, iv 0, iv rr, iv 0, iv 0, Value.slice none (0 : Nat) (0 : Nat), Value.slice none (0 : Nat) (0 : Nat), Value.bool false], Value.slice la (32768 : Nat) (32768 : Nat), Value.tuple #[pv ct.p 0, iv 0], pv ct.p 0, iv 0, pv ct.p 0, Value.bool false, Value.bool false, iv 0, Value.bool false, Value.bool false, iv t, Value.bool !decide (t = (9 : Int)), iv at0, iv (↑o : Int), iv ((40960 : Int) + (↑o : Int)), Value.bool !decide (t = (9 : Int)), pv ct.p 0, iv ((40960 : Int) + (↑o : Int)), tu, pv ct.p 0, iv ((40960 : Int) + (↑o : Int)), uv 255, Value.bool false, pv ct.p 0, tu, pv ct.p 0, tu, iv t, Value.bool (decide (t = (6 : Int))), iv (↑bks : Int), iv (↑bks : Int), Value.bool (decide ((↑bks : Int) < (↑bks : Int))), J1 77, J1 78, J1 79, J1 80, J1 81, J1 82, J1 83, J1 84, J1 85, J1 86, J1 87, J1 88, J1 89, J1 90, J1 91, J1 92, J1 93, J1 94, J1 95, J1 96, J1 97, J1 98, J1 99, J1 100, J1 101, J1 102, J1 103, J1 104, J1 105, J1 106, J1 107, J1 108, iv (↑i : Int), iv (↑bks : Int), Value.bool (decide ((↑i : Int) < (↑bks : Int))), J3 112, J3 113, J8 114, J8 115, J8 116, J8 117, J8 118, J8 119, J8 120, J8 121, J8 122, iv (↑i : Int), iv ((↑i : Int) + (1 : Int)), uv ((↑i : Int) + (1 : Int)), iv (↑i : Int), Value.slice va nv vc, iv (↑nv : Int), Value.bool (decide ((↑i : Int) < (↑nv : Int))), J3 130, J3 131, J3 132, J3 133, J3 134, J3 135, J3 136, J3 137, J3 138, J3 139, J3 140, J3 141, J3 142, J3 143, tu, tu, tu, tu, tu, tu, tu, tu, tu, tu, tu, tu, tu, tu, tu, tu, tu, tu, tu, tu, tu, tu, tu, tu, tu, tu, tu, tu, tu, tu, tu, tu, tu, tu, tu, tu, tu, tu, tu, tu, tu] : List Value).getD j9 undef) ?_))
        · rfl
        · unfold vjI; rw [if_neg hiv]
    rintro ⟨v, J4⟩ hv
    dsimp only at hv
    subst hv
    (focus
      refine Xg.At.same (T' := [iv w, iv cd, Value.slice va nv vc, iv at0, iv sh, tu, tu, tu, tu, tu, J3 10, iv t, iv rr, iv (↑bks : Int), pv ct.p 0, iv 0, Value.bool !decide (t = (9 : Int)), iv ((40960 : Int) + (↑o : Int)), uv (hgK κ), iv (↑bks : Int), J1 20, iv (↑i : Int), uv (vjI V nv i), tu, tu, Value.slice ta (10 : Nat) tc, iv w, iv (↑q9 : Int), iv ((5 : Int) + (↑q9 : Int)), Value.pointer (some (Addr.mk (blk ta) (offA ta + ((5 : Nat) + q9)) none)), iv t, iv t, J9 (32 : Nat), J9 (33 : Nat), J9 (34 : Nat), J9 (35 : Nat), J9 (36 : Nat), J9 (37 : Nat), J9 (38 : Nat), J9 (39 : Nat), J9 (40 : Nat), Value.tuple #[pv ct.p 0, iv 0], iv t, iv rr, Value.agg #[iv t, iv 0, iv rr, iv 0, iv 0, Value.slice none (0 : Nat) (0 : Nat), Value.slice none (0 : Nat) (0 : Nat), Value.bool false], Value.slice la (32768 : Nat) (32768 : Nat), Value.tuple #[pv ct.p 0, iv 0], pv ct.p 0, iv 0, pv ct.p 0, Value.bool false, Value.bool false, iv 0, Value.bool false, Value.bool false, iv t, Value.bool !decide (t = (9 : Int)), iv at0, iv (↑o : Int), iv ((40960 : Int) + (↑o : Int)), Value.bool !decide (t = (9 : Int)), pv ct.p 0, iv ((40960 : Int) + (↑o : Int)), tu, pv ct.p 0, iv ((40960 : Int) + (↑o : Int)), uv 255, Value.bool false, pv ct.p 0, tu, pv ct.p 0, tu, iv t, Value.bool (decide (t = (6 : Int))), iv (↑bks : Int), iv (↑bks : Int), Value.bool (decide ((↑bks : Int) < (↑bks : Int))), J1 77, J1 78, J1 79, J1 80, J1 81, J1 82, J1 83, J1 84, J1 85, J1 86, J1 87, J1 88, J1 89, J1 90, J1 91, J1 92, J1 93, J1 94, J1 95, J1 96, J1 97, J1 98, J1 99, J1 100, J1 101, J1 102, J1 103, J1 104, J1 105, J1 106, J1 107, J1 108, iv (↑i : Int), iv (↑bks : Int), Value.bool (decide ((↑i : Int) < (↑bks : Int))), J3 112, J3 113, J8 114, J8 115, J8 116, J8 117, J8 118, J8 119, J8 120, J8 121, J8 122, iv (↑i : Int), iv ((↑i : Int) + (1 : Int)), uv ((↑i : Int) + (1 : Int)), iv (↑i : Int), Value.slice va nv vc, iv (↑nv : Int), Value.bool (decide ((↑i : Int) < (↑nv : Int))), J4 130, J4 131, J4 132, J4 133, J4 134, J3 135, J3 136, J3 137, J3 138, J3 139, J3 140, J3 141, J3 142, J3 143, tu, tu, tu, tu, tu, tu, tu, tu, tu, tu, tu, tu, tu, tu, tu, tu, tu, tu, tu, tu, tu, tu, tu, tu, tu, tu, tu, tu, tu, tu, tu, tu, tu, tu, tu, tu, tu, tu, tu, tu, tu]) (L' := [CTP κ ct h (rI κ i) R M, A, TyP te ta tc]) (by kernel_rfl) rfl ?_)
    (focus
      refine Xg.at_seq ?_
      refine Xg.at_region ?_
      refine Xg.ops_op (by kernel_rfl) (Xg.opx_pure ((pv ct.p 0)) rfl (fun _ => by kernel_rfl) ?_)
      refine Xg.ops_op (by kernel_rfl) (Xg.opx_pure ((iv ((40960 : Int) + (↑o : Int)))) rfl (fun _ => by kernel_rfl) ?_)
      refine Xg.ops_op (by kernel_rfl) (Xg.opx_call1' [0] [CTP κ ct h (rI κ i) R M, A, TyP te ta tc] (fun _ => by kernel_rfl) (@hrd ) (by kernel_rfl) (by kernel_rfl) (by kernel_rfl) ?_)
      refine Xg.ops_op (by kernel_rfl) (Xg.opx_pure ((uv (vjI V nv i))) rfl (fun _ => by kernel_rfl) ?_)
      refine Xg.ops_op (by kernel_rfl) (Xg.opx_pure ((uv (hgK κ))) rfl (fun _ => by kernel_rfl) ?_)
      refine Xg.ops_op (by kernel_rfl) (Xg.opx_pure (.int .u8 (Xg.bclr .u8 ((vjI V nv i)) ((hgK κ)))) rfl (fun _ => by kernel_rfl) ?_)
      refine Xg.ops_op (by kernel_rfl) (Xg.opx_pure ((uv (hgK κ))) rfl (fun _ => by kernel_rfl) ?_)
      refine Xg.ops_op (by kernel_rfl) (Xg.opx_pure (.int .u8 (Xg.bor .u8 ((bclr IntKind.u8 (vjI V nv i) (hgK κ))) ((hgK κ)))) rfl (fun _ => by kernel_rfl) ?_)
      refine Xg.ops_op (by kernel_rfl) (Xg.opx_pure (.bool (!decide (((bor IntKind.u8 (bclr IntKind.u8 (vjI V nv i) (hgK κ)) (hgK κ)) : Int) = (bor IntKind.u8 (bclr IntKind.u8 (vjI V nv i) (hgK κ)) (hgK κ))))) rfl (fun _ => by kernel_rfl) ?_)
      refine Xg.ops_nil ?_
      refine Xg.at_false (t := !decide ((bor IntKind.u8 (bclr IntKind.u8 (vjI V nv i) (hgK κ)) (hgK κ) = bor IntKind.u8 (bclr IntKind.u8 (vjI V nv i) (hgK κ)) (hgK κ)))) (by kernel_rfl) (by rw [decide_eq_true (by omega)]; rfl) ?_
      refine Xg.at_skip ?_
      refine Xg.at_inBlock ?_
      refine Xg.at_region ?_
      refine Xg.ops_op (by kernel_rfl) (Xg.opx_pure ((iv (↑i : Int))) rfl (fun _ => by kernel_rfl) ?_)
      refine Xg.ops_op (by kernel_rfl) (Xg.opx_int .i64 (IntKind.wrap .i64 (((↑i : Int) + (1 : Int)))) rfl (fun _ => by kernel_rfl) (Xg.wrap_i64_in (by omega)) ?_)
      refine Xg.ops_op (by kernel_rfl) (Xg.opx_pure ((iv ((↑i : Int) + (1 : Int)))) rfl (fun _ => by kernel_rfl) ?_)
      refine Xg.ops_nil ?_
      refine Xg.at_inLoop ?_)
    (focus
      refine Xg.at_keep [0, 1, 2] (by kernel_rfl) ?_
      refine Xs.same ?_ (fun J9 => ih (((i + 1, i)), J9) ?_ ?_) (by kernel_rfl))
    · rfl
    · exact ⟨hlt, (by show i ≤ 3; omega), Or.inr rfl⟩
    · show bks - (i + 1) < bks - i; omega
  clear ih
  obtain rfl : bks = i := by omega
  obtain ⟨lb, hlb⟩ : ∃ lb, lb + 1 = bks := ⟨bks - 1, by omega⟩
  obtain rfl : p2 = lb := by omega
  have hvl := vjI_ok V nv p2 hVl hVo (by omega)
  have hbl := rv_v κ (vjI V nv p2) hvl
  have hfl := hF p2 (by omega)
  have hci := cell_on hkk p2 bks o mn (by omega) hb4.2 hmm ho8
  have oki := okX (rI κ p2) M (rI_ok hkk hp2).1 hM hB
  have oko := okX (rO κ p2) M (rI_ok hkk hp2).2 hM hB
  have hw1 := writeRK_d oki 0 s9 (by decide) ⟨by omega, by omega⟩
  rw [reg_shut hkk p2 s9 hls] at hw1
  have hw2 := writeNK_d oko (40960 + (o : Int)) 99 ⟨by omega, by omega⟩ (Or.inr (by omega)) (by decide) (cell_off hkk _ _ _)
  have hr1 := readK_d oko (40960 + (o : Int)) ⟨by omega, by omega⟩
  rw [read_off κ _ h.bk R M _ (by omega) (cell_off hkk _ _ _)] at hr1
  have hw3 := writeRK_d oko 0 10 (by decide) (by decide)
  rw [reg_open2 hkk p2] at hw3
  have hr2 := readK_d oki (40960 + (o : Int)) ⟨by omega, by omega⟩
  rw [read_onK κ _ h.bk R M _ _ (by omega) (by rw [hM]; exact hci), hfl, hbl] at hr2
  (focus
    refine Xg.at_seq ?_
    refine Xg.at_seq ?_
    refine Xg.at_region ?_
    refine Xg.ops_op (by kernel_rfl) (Xg.opx_pure ((iv (↑bks : Int))) rfl (fun _ => by kernel_rfl) ?_)
    refine Xg.ops_op (by kernel_rfl) (Xg.opx_pure ((iv (↑bks : Int))) rfl (fun _ => by kernel_rfl) ?_)
    refine Xg.ops_op (by kernel_rfl) (Xg.opx_pure (.bool (decide ((((↑bks : Int)) : Int) < ((↑bks : Int))))) rfl (fun _ => by kernel_rfl) ?_)
    refine Xg.ops_nil ?_
    refine Xg.at_false (t := decide (((↑bks : Int) < (↑bks : Int)))) (by kernel_rfl) (decide_eq_false (by omega)) ?_
    refine Xg.at_exit rfl ?_
    refine Xg.at_seq ?_
    refine Xg.at_seq ?_
    refine Xg.at_region ?_
    refine Xg.ops_op (by kernel_rfl) (Xg.opx_pure ((Value.bool !decide (t = (9 : Int)))) rfl (fun _ => by kernel_rfl) ?_)
    refine Xg.ops_op (by kernel_rfl) (Xg.opx_pure (.bool (!(!decide (t = (9 : Int))))) rfl (fun _ => by kernel_rfl) ?_)
    refine Xg.ops_nil ?_
    refine Xg.at_cond (t := (!!decide (t = (9 : Int)))) (by kernel_rfl) (fun xh3 => ?_) (fun xh3 => ?_)
    replace xh3 : (!decide (t = (9 : Int))) = false := by simpa using xh3
    rotate_left
    replace xh3 : (!decide (t = (9 : Int))) = true := by simpa using xh3
    rotate_right
    refine Xg.at_seq ?_
    refine Xg.at_region ?_
    refine Xg.ops_op (by kernel_rfl) (Xg.opx_pure ((Value.bool true)) rfl (fun _ => by kernel_rfl) ?_)
    refine Xg.ops_nil ?_
    refine Xg.at_ret_ps (v := (Value.bool true)) [1, 2] [A, TyP te ta tc] Go.Proofs.Tryd.func5 (fun _ => by kernel_rfl) (by kernel_rfl) (by kernel_rfl) ?_
    exact ⟨by kernel_rfl, by kernel_rfl⟩
    refine Xg.at_skip ?_
    refine Xg.at_seq ?_
    refine Xg.at_region ?_
    refine Xg.ops_op (by kernel_rfl) (Xg.opx_pure ((pv ct.p 0)) rfl (fun _ => by kernel_rfl) ?_)
    refine Xg.ops_op (by kernel_rfl) (Xg.opx_pure ((iv sh)) rfl (fun _ => by kernel_rfl) ?_)
    refine Xg.ops_op (by kernel_rfl) (Xg.opx_call1' [] [CTP κ ct h (rI κ p2) R M, A, TyP te ta tc] (fun _ => by kernel_rfl) (@hps ) (by kernel_rfl) (by kernel_rfl) (by kernel_rfl) ?_)
    refine Xg.ops_op (by kernel_rfl) (Xg.opx_int .u8 (IntKind.wrap .u8 (s9)) rfl (fun _ => by kernel_rfl) (Xg.wrap_u8_in (by omega)) ?_)
    refine Xg.ops_op (by kernel_rfl) (Xg.opx_call1' [0] [CTP κ ct h (rO κ p2) R M, A, TyP te ta tc] (fun _ => by kernel_rfl) (@hw1 ) (by kernel_rfl) (by kernel_rfl) (by kernel_rfl) ?_)
    refine Xg.ops_nil ?_
    refine Xg.at_seq ?_
    refine Xg.at_region ?_
    refine Xg.ops_op (by kernel_rfl) (Xg.opx_pure ((pv ct.p 0)) rfl (fun _ => by kernel_rfl) ?_)
    refine Xg.ops_op (by kernel_rfl) (Xg.opx_pure ((iv ((40960 : Int) + (↑o : Int)))) rfl (fun _ => by kernel_rfl) ?_)
    refine Xg.ops_op (by kernel_rfl) (Xg.opx_call1' [0] [CTP κ ct h (rO κ p2) R M, A, TyP te ta tc] (fun _ => by kernel_rfl) (@hw2 ) (by kernel_rfl) (by kernel_rfl) (by kernel_rfl) ?_)
    refine Xg.ops_nil ?_
    refine Xg.at_seq ?_
    refine Xg.at_region ?_
    refine Xg.ops_op (by kernel_rfl) (Xg.opx_pure ((pv ct.p 0)) rfl (fun _ => by kernel_rfl) ?_)
    refine Xg.ops_op (by kernel_rfl) (Xg.opx_pure ((iv ((40960 : Int) + (↑o : Int)))) rfl (fun _ => by kernel_rfl) ?_)
    refine Xg.ops_op (by kernel_rfl) (Xg.opx_call1' [0] [CTP κ ct h (rO κ p2) R M, A, TyP te ta tc] (fun _ => by kernel_rfl) (@hr1 ) (by kernel_rfl) (by kernel_rfl) (by kernel_rfl) ?_)
    refine Xg.ops_op (by kernel_rfl) (Xg.opx_pure ((uv 255)) rfl (fun _ => by kernel_rfl) ?_)
    refine Xg.ops_nil ?_
    refine Xg.at_seq ?_
    refine Xg.at_region ?_
    refine Xg.ops_op (by kernel_rfl) (Xg.opx_pure ((pv ct.p 0)) rfl (fun _ => by kernel_rfl) ?_)
    refine Xg.ops_op (by kernel_rfl) (Xg.opx_call1' [0] [CTP κ ct h (rI κ p2) R M, A, TyP te ta tc] (fun _ => by kernel_rfl) (@hw3 ) (by kernel_rfl) (by kernel_rfl) (by kernel_rfl) ?_)
    refine Xg.ops_nil ?_
    refine Xg.at_seq ?_
    refine Xg.at_region ?_
    refine Xg.ops_op (by kernel_rfl) (Xg.opx_pure ((iv (↑bks : Int))) rfl (fun _ => by kernel_rfl) ?_)
    refine Xg.ops_op (by kernel_rfl) (Xg.opx_int .u8 (IntKind.wrap .u8 (((↑bks : Int)))) rfl (fun _ => by kernel_rfl) (Xg.wrap_u8_in (by omega)) ?_)
    refine Xg.ops_op (by kernel_rfl) (Xg.opx_pure ((uv (↑bks : Int))) rfl (fun _ => by kernel_rfl) ?_)
    refine Xg.ops_nil ?_
    refine Xg.at_seq ?_
    refine Xg.at_seq ?_
    refine Xg.at_region ?_
    refine Xg.ops_op (by kernel_rfl) (Xg.opx_pure ((iv (↑bks : Int))) rfl (fun _ => by kernel_rfl) ?_)
    refine Xg.ops_op (by kernel_rfl) (Xg.opx_int .i64 (IntKind.wrap .i64 (((↑bks : Int) - (1 : Int)))) rfl (fun _ => by kernel_rfl) (Xg.wrap_i64_in (by omega)) ?_)
    refine Xg.ops_op (by kernel_rfl) (Xg.opx_pure ((Value.slice va nv vc)) rfl (fun _ => by kernel_rfl) ?_)
    refine Xg.ops_op (by kernel_rfl) (Xg.opx_pure ((iv (↑nv : Int))) rfl (fun _ => by kernel_rfl) ?_)
    refine Xg.ops_op (by kernel_rfl) (Xg.opx_pure (.bool (decide ((((↑bks : Int) - (1 : Int)) : Int) < ((↑nv : Int))))) rfl (fun _ => by kernel_rfl) ?_)
    refine Xg.ops_nil ?_)
  (focus
    refine Xg.at_cut (α := (Int) × (Nat → Value)) (fun x9 => ((fun v => vjI V nv p2 = v) : (Int) → Prop) x9.1) (fun x9 => Xg.headT [iv w, iv cd, Value.slice va nv vc, iv at0, iv sh, tu, tu, tu, tu, tu, J3 10, iv t, iv rr, iv (↑bks : Int), pv ct.p 0, iv 0, Value.bool !decide (t = (9 : Int)), iv ((40960 : Int) + (↑o : Int)), uv (hgK κ), iv (↑bks : Int), J1 20, iv (↑bks : Int), J3 22, uv 255, uv (↑bks : Int), Value.slice ta (10 : Nat) tc, iv w, iv (↑q9 : Int), iv ((5 : Int) + (↑q9 : Int)), Value.pointer (some (Addr.mk (blk ta) (offA ta + ((5 : Nat) + q9)) none)), iv t, iv t, J9 (32 : Nat), J9 (33 : Nat), J9 (34 : Nat), J9 (35 : Nat), J9 (36 : Nat), J9 (37 : Nat), J9 (38 : Nat), J9 (39 : Nat), J9 (40 : Nat), Value.tuple #[pv ct.p 0, iv 0], iv t, iv rr, Value.agg #[iv t, iv 0, iv rr, iv 0, iv 0, Value.slice none (0 : Nat) (0 : Nat), Value.slice none (0 : Nat) (0 : Nat), Value.bool false], Value.slice la (32768 : Nat) (32768 : Nat), Value.tuple #[pv ct.p 0, iv 0], pv ct.p 0, iv 0, pv ct.p 0, Value.bool false, Value.bool false, iv 0, Value.bool false, Value.bool false, iv t, Value.bool !decide (t = (9 : Int)), iv at0, iv (↑o : Int), iv ((40960 : Int) + (↑o : Int)), Value.bool !decide (t = (9 : Int)), pv ct.p 0, iv ((40960 : Int) + (↑o : Int)), tu, pv ct.p 0, iv ((40960 : Int) + (↑o : Int)), uv 255, Value.bool false, pv ct.p 0, tu, pv ct.p 0, tu, iv t, Value.bool (decide (t = (6 : Int))), iv (↑bks : Int), iv (↑bks : Int), Value.bool (decide ((↑bks : Int) < (↑bks : Int))), J1 77, J1 78, J1 79, J1 80, J1 81, J1 82, J1 83, J1 84, J1 85, J1 86, J1 87, J1 88, J1 89, J1 90, J1 91, J1 92, J1 93, J1 94, J1 95, J1 96, J1 97, J1 98, J1 99, J1 100, J1 101, J1 102, J1 103, J1 104, J1 105, J1 106, J1 107, J1 108, iv (↑bks : Int), iv (↑bks : Int), Value.bool (decide ((↑bks : Int) < (↑bks : Int))), J3 112, J3 113, J3 114, J3 115, J3 116, J3 117, J3 118, J3 119, J3 120, J3 121, J3 122, J3 123, J3 124, J3 125, J3 126, J3 127, J3 128, J3 129, J3 130, J3 131, J3 132, J3 133, J3 134, J3 135, J3 136, J3 137, J3 138, J3 139, J3 140, J3 141, J3 142, J3 143, Value.bool !decide (t = (9 : Int)), Value.bool !!decide (t = (9 : Int)), pv ct.p 0, iv sh, iv s9, uv s9, tu, pv ct.p 0, iv ((40960 : Int) + (↑o : Int)), tu, pv ct.p 0, iv ((40960 : Int) + (↑o : Int)), uv 255, pv ct.p 0, tu, iv (↑bks : Int), uv (↑bks : Int), iv (↑bks : Int), iv ((↑bks : Int) - (1 : Int)), Value.slice va nv vc, iv (↑nv : Int), Value.bool (decide ((↑bks : Int) - (1 : Int) < (↑nv : Int))), tu, tu, tu, tu, tu, tu, tu, tu, tu, tu, tu, tu, tu, tu, tu, tu, tu, tu, tu] [166, 167, 168, 169, 170, 171] (((fun v => [(24, .int .u8 v)]) : (Int) → List (Nat × Go.Value)) x9.1) x9.2) (fun x9 => ((fun v => [CTP κ ct h (rI κ p2) R M, A, TyP te ta tc]) : (Int) → List Go.Sl.HP) x9.1) (fun kk hk => ?_) ?_)
  · by_cases hiv : p2 < nv
    · (focus
        refine Xg.at_true (t := decide (((↑bks : Int) - (1 : Int) < (↑nv : Int)))) (by kernel_rfl) (decide_eq_true (by omega)) ?_
        refine Xg.at_region ?_
        refine Xg.ops_op (by kernel_rfl) (Xg.opx_pure ((Value.slice va nv vc)) rfl (fun _ => by kernel_rfl) ?_)
        refine Xg.ops_op (by kernel_rfl) (Xg.opx_pure ((iv (↑bks : Int))) rfl (fun _ => by kernel_rfl) ?_)
        refine Xg.ops_op (by kernel_rfl) (Xg.opx_int .i64 (IntKind.wrap .i64 (((↑bks : Int) - (1 : Int)))) rfl (fun _ => by kernel_rfl) (Xg.wrap_i64_in (by omega)) ?_)
        refine Xg.ops_op (by kernel_rfl) (Xg.opx_rd 1 (.pointer (some (Addr.mk (Xg.blk va) (offA va + ((↑bks : Int) - (1 : Int)).toNat) none))) rfl hV (by kernel_rfl) (Xg.run_ix_rd (elem := 3) (kd := .i64) (e := ((↑bks : Int) - (1 : Int))) 1 (((↑bks : Int) - (1 : Int)).toNat) (offA va + ((↑bks : Int) - (1 : Int)).toNat) (by kernel_rfl) (by kernel_rfl) (by kernel_rfl) (by kernel_rfl) (by omega) (by omega) (by simp only [List.length_map]; omega) (by omega)) ?_)
        refine Xg.ops_op (by kernel_rfl) (Xg.opx_rd 1 (iv (V.getD ((↑bks : Int) - (1 : Int)).toNat (0 : Int))) rfl hV (by kernel_rfl) (Xg.run_load_rd (off0 := (offA va + ((↑bks : Int) - (1 : Int)).toNat)) (((↑bks : Int) - (1 : Int)).toNat) (by kernel_rfl) (by omega) (Xg.get_ints (by omega)) (by kernel_rfl)) ?_)
        refine Xg.ops_op (by kernel_rfl) (Xg.opx_int .u8 (IntKind.wrap .u8 ((V.getD ((↑bks : Int) - (1 : Int)).toNat (0 : Int)))) rfl (fun _ => by kernel_rfl) (Xg.wrap_u8_mod _) ?_)
        refine Xg.ops_op (by kernel_rfl) (Xg.opx_pure ((uv (V.getD ((↑bks : Int) - (1 : Int)).toNat (0 : Int) % (256 : Int)))) rfl (fun _ => by kernel_rfl) ?_)
        refine Xg.ops_nil ?_)
      (focus
        refine Xg.at_keep [0, 1, 2] (by kernel_rfl) ?_
        refine Xg.At.same (by kernel_rfl) ?_ (hk (((V.getD ((bks : Int) - 1).toNat 0 % 256)), fun j9 => ([iv w, iv cd, Value.slice va nv vc, iv at0, iv sh, tu, tu, tu, tu, tu, J3 10, iv t, iv rr, iv (↑bks : Int), pv ct.p 0, iv 0, Value.bool !decide (t = (9 : Int)), iv ((40960 : Int) + (↑o : Int)), uv (hgK κ), iv (↑bks : Int), J1 20, iv (↑bks : Int), J3 22, uv 255, uv (V.getD ((↑bks : Int) - (1 : Int)).toNat (0 : Int) % (256 : Int)), Value.slice ta (10 : Nat) tc, iv w, iv (↑q9 : Int), iv ((5 : Int) + (↑q9 : Int)), Value.pointer (some (Addr.mk (blk ta) (offA ta + ((5 : Nat) + q9)) none)), iv t, iv t, J9 (32 : Nat), J9 (33 : Nat), J9 (34 : Nat), J9 (35 : Nat), J9 (36 : Nat), J9 (37 : Nat), J9 (38 : Nat), J9 (39 : Nat), J9 (40 : Nat), Value.tuple #[pv ct.p 0, iv 0], iv t, iv rr, Value.agg #[iv t, iv 0, iv rr, iv 0, iv 0, Value.slice none (0 : Nat) (0 : Nat), Value.slice none (0 : Nat) (0 : Nat), Value.bool false], Value.slice la (32768 : Nat) (32768 : Nat), Value.tuple #[pv ct.p 0, iv 0], pv ct.p 0, iv 0, pv ct.p 0, Value.bool false, Value.bool false, iv 0, Value.bool false, Value.bool false, iv t, Value.bool !decide (t = (9 : Int)), iv at0, iv (↑o : Int), iv ((40960 : Int) + (↑o : Int)), Value.bool !decide (t = (9 : Int)), pv ct.p 0, iv ((40960 : Int) + (↑o : Int)), tu, pv ct.p 0, iv ((40960 : Int) + (↑o : Int)), uv 255, Value.bool false, pv ct.p 0, tu, pv ct.p 0, tu, iv t, Value.bool (decide (t = (6 : Int))), iv (↑bks : Int), iv (↑bks : Int), Value.bool (decide ((↑bks : Int) < (↑bks : Int))), J1 77, J1 78, J1 79, J1 80, J1 81, J1 82, J1 83, J1 84, J1 85, J1 86, J1 87, J1 88, J1 89, J1 90, J1 91, J1 92, J1 93, J1 94, J1 95, J1 96, J1 97, J1 98, J1 99, J1 100, J1 101, J1 102, J1 103, J1 104, J1 105, J1 106, J1 107, J1 108, iv (↑bks : Int), iv (↑bks : Int), Value.bool (decide ((↑bks : Int) < (↑bks : Int))), J3 112, J3 113, J3 114, J3 115, J3 116, J3 117, J3 118, J3 119, J3 120, J3 121, J3 122, J3 123, J3 124, J3 125, J3 126, J3 127, J3 128, J3 129, J3 130, J3 131, J3 132, J3 133, J3 134, J3 135, J3 136, J3 137, J3 138, J3 139, J3 140, J3 141, J3 142, J3 143, Value.bool !decide (t = (9 : Int)), Value.bool !!decide (t = (9 : Int)), pv ct.p 0, iv sh, iv s9, uv s9, tu, pv ct.p 0, iv ((40960 : Int) + (↑o : Int)), tu, pv ct.p 0, iv ((40960 : Int) + (↑o : Int)), uv 255, pv ct.p 0, tu, iv (↑bks : Int), uv (↑bks : Int), iv (↑bks : Int), iv ((↑bks : Int) - (1 : Int)), Value.slice va nv vc, iv (↑nv : Int), Value.bool (decide ((↑bks : Int) - (1 : Int) < (↑nv : Int))), Value.slice va nv vc, iv (↑bks : Int), iv ((↑bks : Int) - (1 : Int)), Value.pointer (some (Addr.mk (blk va) (offA va + ((↑bks : Int) - (1 : Int)).toNat) none)), iv (V.getD ((↑bks : Int) - (1 : Int)).toNat (0 : Int)), uv (V.getD ((↑bks : Int) - (1 : Int)).toNat (0 : Int) % (256 : Int)), tu, tu, tu, tu, tu, tu, tu, tu, tu, tu, tu, tu, tu] : List Value).getD j9 undef) ?_))
      · rfl
      · unfold vjI; rw [if_pos hiv, show ((bks : Int) - 1).toNat = p2 by omega]
    · (focus
        refine Xg.at_false (t := decide (((↑bks : Int) - (1 : Int) < (↑nv : Int)))) (by kernel_rfl) (decide_eq_false (by omega)) ?_
        refine Xg.at_skip ?_)
      (focus
        refine Xg.at_keep [0, 1, 2] (by kernel_rfl) ?_
        refine Xg.At.same (by kernel_rfl) ?_ (hk ((((bks : Nat) : Int)), fun j9 => ([iv w, iv cd, Value.slice va nv vc, iv at0, iv sh, tu, tu, tu, tu, tu, J3 10, iv t, iv rr, iv (↑bks : Int), pv ct.p 0, iv 0, Value.bool !decide (t = (9 : Int)), iv ((40960 : Int) + (↑o : Int)), uv (hgK κ), iv (↑bks : Int), J1 20, iv (↑bks : Int), J3 22, uv 255, uv (↑bks : Int), Value.slice ta (10 : Nat) tc, iv w, iv (↑q9 : Int), iv ((5 : Int) + (↑q9 : Int)), Value.pointer (some (Addr.mk (blk ta) (offA ta + ((5 : Nat) + q9)) none)), iv t, iv t, J9 (32 : Nat), J9 (33 : Nat), J9 (34 : Nat), J9 (35 : Nat), J9 (36 : Nat), J9 (37 : Nat), J9 (38 : Nat), J9 (39 : Nat), J9 (40 : Nat), Value.tuple #[pv ct.p 0, iv 0], iv t, iv rr, Value.agg #[iv t, iv 0, iv rr, iv 0, iv 0, Value.slice none (0 : Nat) (0 : Nat), Value.slice none (0 : Nat) (0 : Nat), Value.bool false], Value.slice la (32768 : Nat) (32768 : Nat), Value.tuple #[pv ct.p 0, iv 0], pv ct.p 0, iv 0, pv ct.p 0, Value.bool false, Value.bool false, iv 0, Value.bool false, Value.bool false, iv t, Value.bool !decide (t = (9 : Int)), iv at0, iv (↑o : Int), iv ((40960 : Int) + (↑o : Int)), Value.bool !decide (t = (9 : Int)), pv ct.p 0, iv ((40960 : Int) + (↑o : Int)), tu, pv ct.p 0, iv ((40960 : Int) + (↑o : Int)), uv 255, Value.bool false, pv ct.p 0, tu, pv ct.p 0, tu, iv t, Value.bool (decide (t = (6 : Int))), iv (↑bks : Int), iv (↑bks : Int), Value.bool (decide ((↑bks : Int) < (↑bks : Int))), J1 77, J1 78, J1 79, J1 80, J1 81, J1 82, J1 83, J1 84, J1 85, J1 86, J1 87, J1 88, J1 89, J1 90, J1 91, J1 92, J1 93, J1 94, J1 95, J1 96, J1 97, J1 98, J1 99, J1 100, J1 101, J1 102, J1 103, J1 104, J1 105, J1 106, J1 107, J1 108, iv (↑bks : Int), iv (↑bks : Int), Value.bool (decide ((↑bks : Int) < (↑bks : Int))), J3 112, J3 113, J3 114, J3 115, J3 116, J3 117, J3 118, J3 119, J3 120, J3 121, J3 122, J3 123, J3 124, J3 125, J3 126, J3 127, J3 128, J3 129, J3 130, J3 131, J3 132, J3 133, J3 134, J3 135, J3 136, J3 137, J3 138, J3 139, J3 140, J3 141, J3 142, J3 143, Value.bool !decide (t = (9 : Int)), Value.bool !!decide (t = (9 : Int)), pv ct.p 0, iv sh, iv s9, uv s9, tu, pv ct.p 0, iv ((40960 : Int) + (↑o : Int)), tu, pv ct.p 0, iv ((40960 : Int) + (↑o : Int)), uv 255, pv ct.p 0, tu, iv (↑bks : Int), uv (↑bks : Int), iv (↑bks : Int), iv ((↑bks : Int) - (1 : Int)), Value.slice va nv vc, iv (↑nv : Int), Value.bool (decide ((↑bks : Int) - (1 : Int) < (↑nv : Int))), tu, tu, tu, tu, tu, tu, tu, tu, tu, tu, tu, tu, tu, tu, tu, tu, tu, tu, tu] : List Value).getD j9 undef) ?_))
      · rfl
      · unfold vjI; rw [if_neg hiv]; omega
  rintro ⟨v, J6⟩ hv
  dsimp only at hv
  subst hv
  (focus
    refine Xg.At.same (T' := [iv w, iv cd, Value.slice va nv vc, iv at0, iv sh, tu, tu, tu, tu, tu, J3 10, iv t, iv rr, iv (↑bks : Int), pv ct.p 0, iv 0, Value.bool !decide (t = (9 : Int)), iv ((40960 : Int) + (↑o : Int)), uv (hgK κ), iv (↑bks : Int), J1 20, iv (↑bks : Int), J3 22, uv 255, uv (vjI V nv p2), Value.slice ta (10 : Nat) tc, iv w, iv (↑q9 : Int), iv ((5 : Int) + (↑q9 : Int)), Value.pointer (some (Addr.mk (blk ta) (offA ta + ((5 : Nat) + q9)) none)), iv t, iv t, J9 (32 : Nat), J9 (33 : Nat), J9 (34 : Nat), J9 (35 : Nat), J9 (36 : Nat), J9 (37 : Nat), J9 (38 : Nat), J9 (39 : Nat), J9 (40 : Nat), Value.tuple #[pv ct.p 0, iv 0], iv t, iv rr, Value.agg #[iv t, iv 0, iv rr, iv 0, iv 0, Value.slice none (0 : Nat) (0 : Nat), Value.slice none (0 : Nat) (0 : Nat), Value.bool false], Value.slice la (32768 : Nat) (32768 : Nat), Value.tuple #[pv ct.p 0, iv 0], pv ct.p 0, iv 0, pv ct.p 0, Value.bool false, Value.bool false, iv 0, Value.bool false, Value.bool false, iv t, Value.bool !decide (t = (9 : Int)), iv at0, iv (↑o : Int), iv ((40960 : Int) + (↑o : Int)), Value.bool !decide (t = (9 : Int)), pv ct.p 0, iv ((40960 : Int) + (↑o : Int)), tu, pv ct.p 0, iv ((40960 : Int) + (↑o : Int)), uv 255, Value.bool false, pv ct.p 0, tu, pv ct.p 0, tu, iv t, Value.bool (decide (t = (6 : Int))), iv (↑bks : Int), iv (↑bks : Int), Value.bool (decide ((↑bks : Int) < (↑bks : Int))), J1 77, J1 78, J1 79, J1 80, J1 81, J1 82, J1 83, J1 84, J1 85, J1 86, J1 87, J1 88, J1 89, J1 90, J1 91, J1 92, J1 93, J1 94, J1 95, J1 96, J1 97, J1 98, J1 99, J1 100, J1 101, J1 102, J1 103, J1 104, J1 105, J1 106, J1 107, J1 108, iv (↑bks : Int), iv (↑bks : Int), Value.bool (decide ((↑bks : Int) < (↑bks : Int))), J3 112, J3 113, J3 114, J3 115, J3 116, J3 117, J3 118, J3 119, J3 120, J3 121, J3 122, J3 123, J3 124, J3 125, J3 126, J3 127, J3 128, J3 129, J3 130, J3 131, J3 132, J3 133, J3 134, J3 135, J3 136, J3 137, J3 138, J3 139, J3 140, J3 141, J3 142, J3 143, Value.bool !decide (t = (9 : Int)), Value.bool !!decide (t = (9 : Int)), pv ct.p 0, iv sh, iv s9, uv s9, tu, pv ct.p 0, iv ((40960 : Int) + (↑o : Int)), tu, pv ct.p 0, iv ((40960 : Int) + (↑o : Int)), uv 255, pv ct.p 0, tu, iv (↑bks : Int), uv (↑bks : Int), iv (↑bks : Int), iv ((↑bks : Int) - (1 : Int)), Value.slice va nv vc, iv (↑nv : Int), Value.bool (decide ((↑bks : Int) - (1 : Int) < (↑nv : Int))), J6 166, J6 167, J6 168, J6 169, J6 170, J6 171, tu, tu, tu, tu, tu, tu, tu, tu, tu, tu, tu, tu, tu]) (L' := [CTP κ ct h (rI κ p2) R M, A, TyP te ta tc]) (by kernel_rfl) rfl ?_)
  (focus
    refine Xg.at_seq ?_
    refine Xg.at_region ?_
    refine Xg.ops_op (by kernel_rfl) (Xg.opx_pure ((uv 255)) rfl (fun _ => by kernel_rfl) ?_)
    refine Xg.ops_op (by kernel_rfl) (Xg.opx_pure ((Value.bool true)) rfl (fun _ => by kernel_rfl) ?_)
    refine Xg.ops_op (by kernel_rfl) (Xg.opx_pure ((Value.bool true)) rfl (fun _ => by kernel_rfl) ?_)
    refine Xg.ops_op (by kernel_rfl) (Xg.opx_pure ((pv ct.p 0)) rfl (fun _ => by kernel_rfl) ?_)
    refine Xg.ops_op (by kernel_rfl) (Xg.opx_pure ((iv ((40960 : Int) + (↑o : Int)))) rfl (fun _ => by kernel_rfl) ?_)
    refine Xg.ops_op (by kernel_rfl) (Xg.opx_call1' [0] [CTP κ ct h (rI κ p2) R M, A, TyP te ta tc] (fun _ => by kernel_rfl) (@hr2 ) (by kernel_rfl) (by kernel_rfl) (by kernel_rfl) ?_)
    refine Xg.ops_op (by kernel_rfl) (Xg.opx_pure ((uv (vjI V nv p2))) rfl (fun _ => by kernel_rfl) ?_)
    refine Xg.ops_op (by kernel_rfl) (Xg.opx_pure ((uv (hgK κ))) rfl (fun _ => by kernel_rfl) ?_)
    refine Xg.ops_op (by kernel_rfl) (Xg.opx_pure (.int .u8 (Xg.bclr .u8 ((vjI V nv p2)) ((hgK κ)))) rfl (fun _ => by kernel_rfl) ?_)
    refine Xg.ops_op (by kernel_rfl) (Xg.opx_pure ((uv (hgK κ))) rfl (fun _ => by kernel_rfl) ?_)
    refine Xg.ops_op (by kernel_rfl) (Xg.opx_pure (.int .u8 (Xg.bor .u8 ((bclr IntKind.u8 (vjI V nv p2) (hgK κ))) ((hgK κ)))) rfl (fun _ => by kernel_rfl) ?_)
    refine Xg.ops_op (by kernel_rfl) (Xg.opx_pure (.bool (decide (((bor IntKind.u8 (bclr IntKind.u8 (vjI V nv p2) (hgK κ)) (hgK κ)) : Int) = (bor IntKind.u8 (bclr IntKind.u8 (vjI V nv p2) (hgK κ)) (hgK κ))))) rfl (fun _ => by kernel_rfl) ?_)
    refine Xg.ops_flag (j := 183) (c := (decide (bor IntKind.u8 (bclr IntKind.u8 (vjI V nv p2) (hgK κ)) (hgK κ) = bor IntKind.u8 (bclr IntKind.u8 (vjI V nv p2) (hgK κ)) (hgK κ)))) (by kernel_rfl) (fun _ => ?_) (fun xh4 => absurd (of_decide_eq_false xh4) (by omega))
    refine Xg.ops_op (by kernel_rfl) (Xg.opx_pure ((Value.bool true)) rfl (fun _ => by kernel_rfl) ?_)
    refine Xg.ops_op (by kernel_rfl) (Xg.opx_pure ((Value.bool true)) rfl (fun _ => by kernel_rfl) ?_)
    refine Xg.ops_nil ?_
    refine Xg.at_ret_ps (v := (Value.bool true)) [1, 2] [A, TyP te ta tc] Go.Proofs.Tryd.func5 (fun _ => by kernel_rfl) (by kernel_rfl) (by kernel_rfl) ?_
    exact ⟨by kernel_rfl, by kernel_rfl⟩)
end Go.Proofs.YthjhkondmobaeaaDoor

/- cart's law: what is written to the RAM is there, with no mapper. -/
namespace Go.Proofs.YthjhkondmobaeaaDoor
open Go.Sl Go.Xg
set_option linter.unusedVariables false
set_option linter.unusedSimpArgs false
set_option maxHeartbeats 4000000
set_option maxRecDepth 100000

theorem cell_flat (o : Nat) (ho : o < 8192) : cellI 0 rg0 8192 (40960 + (o : Int)) = ((o : Nat) : Int) := by
  unfold cellI
  rw [if_neg (by simp [ramO]; omega), if_neg (by decide)]
  show (0 : Int) % _ * 8192 + _ - 40960 = _
  rw [Int.zero_emod]
  omega
theorem ram_flat (te : TypeId) (A : HP) (ta : Option Addr) (tc : Nat) (Tl : List Int) (hTl : Tl.length = 10) (hT : Reads A 1 (.slice ta 10 tc) 10 (Tl.map (Value.int .i64))) (w cd at0 sh : Int) (hw : iok w) (hcd : iok cd) (hat : iok at0) (hsh : iok sh) (va : Option Addr) (nv vc : Nat) (V : List Int) (hVl : V.length = nv) (hnv : nv ≤ maxLen) (hV : Reads A 1 (.slice va nv vc) nv (V.map (Value.int .i64))) (hVo : ∀ i, i < nv → iok (V.getD i 0))
    (hq : pickI w 5 = 0) (hTq : Tl.getD 5 0 = 9) :
    Does Tryd.prog 5 [.int .i64 w, .int .i64 cd, .slice va nv vc, .int .i64 at0, .int .i64 sh] [A, TyP te ta tc] (Ret (.bool true) [A, TyP te ta tc]) := by
  have hml : maxLen = 9223372036854775807 := by unfold maxLen; decide
  have hpw := pick_d w 5 hw (by decide)
  rw [hq] at hpw
  have hpa := pick_d at0 8192 hat (by decide)
  have hla := pick_lt at0 8192 (by decide)
  obtain ⟨o, ho⟩ : ∃ o : Nat, pickI at0 8192 = (o : Int) := ⟨(pickI at0 8192).toNat, by omega⟩
  rw [ho] at hpa hla
  have ho8 : o < 8192 := by omega
  have hr0 := rom_own A 9 0 2 0 (by decide) (by decide) (by decide) (by decide) 32768 (by decide)
  (focus
    refine Xg.spec_of Go.Proofs.Tryd.func5 rfl Go.Proofs.Tryd.ntmps5 fun g F => ?_)
  (focus
    refine Xg.at_seq ?_
    refine Xg.at_region ?_
    refine Xg.ops_op (by kernel_rfl) (Xg.opx_pure ((Value.bool false)) rfl (fun _ => by kernel_rfl) ?_)
    refine Xg.ops_nil ?_
    refine Xg.at_seq ?_
    refine Xg.at_draw [2] [(0, [0, 1, 2, 3], Xg.CellIs (((0 : Nat))) (((0 : Nat))) ((Value.slice ta (10 : Nat) tc))), (4, [0, 1, 2, 3, 4], (RdIs (1 : Nat) (Value.slice ta (10 : Nat) tc) (10 : Nat) (List.map (Value.int IntKind.i64) Tl))), (5, [0, 1, 2, 3, 4, 5], (RdIs (1 : Nat) (Value.slice ta (10 : Nat) tc) (10 : Nat) (List.map (Value.int IntKind.i64) Tl)))] (by kernel_rfl) ?_
    refine Xg.any_reads (Value.slice ta (10 : Nat) tc) 0 0 (by kernel_rfl) rfl (by kernel_rfl) (by kernel_rfl) (by kernel_rfl) (by kernel_rfl) rfl rfl (by kernel_rfl) (Xg.cell_now (b := ((0 : Nat))) (off := ((0 : Nat))) 1 rfl (by kernel_rfl)) (fun _ h => Xg.run_load (by kernel_rfl) (by kernel_rfl) h) ?_
    refine Xg.any_pure ((iv w)) 1 (by kernel_rfl) rfl (by kernel_rfl) (by kernel_rfl) (by kernel_rfl) (by kernel_rfl) rfl (fun _ => by kernel_rfl) ?_
    refine Xg.any_each [2] (by kernel_rfl) rfl ⟨?_, trivial⟩
    refine Xg.comes_act rfl (by kernel_rfl) (by kernel_rfl) (Xg.opx_call1' [] [A, TyP te ta tc] (fun _ => by kernel_rfl) (@hpw ) (by kernel_rfl) (by kernel_rfl) (by kernel_rfl) ?_)
    refine Xg.acts (Xg.owes_cell 1 rfl (by kernel_rfl) (Xg.owes_rd 0 hT (by kernel_rfl) (Xg.owes_rd 0 hT (by kernel_rfl) Xg.owes_nil))) ?_
    refine Xg.any_pure ((iv 5)) 3 (by kernel_rfl) rfl (by kernel_rfl) (by kernel_rfl) (by kernel_rfl) (by kernel_rfl) rfl (fun _ => by kernel_rfl) ?_
    refine Xg.any_reads (.pointer (some (Addr.mk (Xg.blk ta) (offA ta + (5 : Nat)) none))) 4 1 (by kernel_rfl) rfl (by kernel_rfl) (by kernel_rfl) (by kernel_rfl) (by kernel_rfl) rfl rfl (by kernel_rfl) (Xg.rd_now 0 hT (by kernel_rfl)) (Xg.run_ix_rd (elem := 3) (kd := .i64) (e := ((5 : Int))) 1 ((5 : Nat)) (offA ta + (5 : Nat)) (by kernel_rfl) (by kernel_rfl) (by kernel_rfl) (by kernel_rfl) rfl (by omega) (by simp only [List.length_map]; omega) (by omega)) ?_
    refine Xg.any_reads (iv (Tl.getD (5 : Nat) (0 : Int))) 5 2 (by kernel_rfl) rfl (by kernel_rfl) (by kernel_rfl) (by kernel_rfl) (by kernel_rfl) rfl rfl (by kernel_rfl) (Xg.rd_now 0 hT (by kernel_rfl)) (Xg.run_load_rd (off0 := (offA ta + (5 : Nat))) ((5 : Nat)) (by kernel_rfl) (by omega) (Xg.get_ints (by omega)) (by kernel_rfl)) ?_
    refine Xg.any_pure ((iv (Tl.getD (5 : Nat) (0 : Int)))) 6 (by kernel_rfl) rfl (by kernel_rfl) (by kernel_rfl) (by kernel_rfl) (by kernel_rfl) rfl (fun _ => by kernel_rfl) ?_
    refine Xg.any_nil (by kernel_rfl) ?_
    refine Xg.at_seq ?_)
  rw [hTq]
  (focus
    refine Xg.at_region ?_
    refine Xg.ops_op (by kernel_rfl) (Xg.opx_pure ((iv 2)) rfl (fun _ => by kernel_rfl) ?_)
    refine Xg.ops_nil ?_
    refine Xg.at_seq ?_
    refine Xg.at_region ?_
    refine Xg.ops_op (by kernel_rfl) (Xg.opx_pure ((iv 1)) rfl (fun _ => by kernel_rfl) ?_)
    refine Xg.ops_nil ?_
    refine Xg.at_seq ?_
    refine Xg.at_seq ?_
    refine Xg.at_region ?_
    refine Xg.ops_op (by kernel_rfl) (Xg.opx_pure ((iv 9)) rfl (fun _ => by kernel_rfl) ?_)
    refine Xg.ops_nil ?_
    refine Xg.at_block ?_
    refine Xg.at_seq ?_
    refine Xg.at_region ?_
    refine Xg.ops_op (by kernel_rfl) (Xg.opx_pure ((Value.bool false)) rfl (fun _ => by kernel_rfl) ?_)
    refine Xg.ops_op (by kernel_rfl) (Xg.opx_pure ((Value.bool false)) rfl (fun _ => by kernel_rfl) ?_)
    refine Xg.ops_nil ?_
    refine Xg.at_false (t := false) (by kernel_rfl) rfl ?_
    refine Xg.at_seq ?_
    refine Xg.at_seq ?_
    refine Xg.at_region ?_
    refine Xg.ops_op (by kernel_rfl) (Xg.opx_pure ((Value.bool false)) rfl (fun _ => by kernel_rfl) ?_)
    refine Xg.ops_op (by kernel_rfl) (Xg.opx_pure ((Value.bool false)) rfl (fun _ => by kernel_rfl) ?_)
    refine Xg.ops_nil ?_
    refine Xg.at_false (t := false) (by kernel_rfl) rfl ?_
    refine Xg.at_seq ?_
    refine Xg.at_region ?_
    refine Xg.ops_op (by kernel_rfl) (Xg.opx_pure ((Value.bool false)) rfl (fun _ => by kernel_rfl) ?_)
    refine Xg.ops_op (by kernel_rfl) (Xg.opx_pure ((Value.bool false)) rfl (fun _ => by kernel_rfl) ?_)
    refine Xg.ops_nil ?_
    refine Xg.at_false (t := false) (by kernel_rfl) rfl ?_
    refine Xg.at_region ?_
    refine Xg.ops_op (by kernel_rfl) (Xg.opx_pure ((Value.bool false)) rfl (fun _ => by kernel_rfl) ?_)
    refine Xg.ops_op (by kernel_rfl) (Xg.opx_pure ((Value.bool false)) rfl (fun _ => by kernel_rfl) ?_)
    refine Xg.ops_nil ?_
    refine Xg.at_false (t := false) (by kernel_rfl) rfl ?_
    refine Xg.at_skip ?_
    refine Xg.at_inBlock ?_
    refine Xg.at_seq ?_
    refine Xg.at_region ?_
    refine Xg.ops_op (by kernel_rfl) (Xg.opx_pure ((iv 9)) rfl (fun _ => by kernel_rfl) ?_)
    refine Xg.ops_op (by kernel_rfl) (Xg.opx_pure ((iv 2)) rfl (fun _ => by kernel_rfl) ?_)
    refine Xg.ops_op (by kernel_rfl) (Xg.opx_pure ((Value.agg #[iv 9, iv 0, iv 2, iv 0, iv 0, Value.slice none (0 : Nat) (0 : Nat), Value.slice none (0 : Nat) (0 : Nat), Value.bool false])) rfl (fun _ => by kernel_rfl) ?_)
    refine Xg.ops_op (by kernel_rfl) (Xg.opx_callE' [0] (fun xx1 => [bts xx1.fst (32768 : Nat) (32768 : Nat) xx1.snd, A, TyP te ta tc]) (fun _ => by kernel_rfl) (@hr0 ) (by kernel_rfl) (by kernel_rfl) (by kernel_rfl) fun xx1 xh1 => ?_)
    try dsimp only at xh1)
  refine Xg.ops_some 0 rfl (by decide) fun hs1 hs2 => ?_
  obtain ⟨la, R⟩ := xx1
  dsimp only at xh1 hs1 ⊢
  have hl := xh1.l
  have hck := chk_box (k := ⟨0, 2, [2], true⟩) xh1 (by decide) (by decide) (by decide) (by rfl) (by decide) (by decide) (by decide)
  obtain ⟨h, hh⟩ : ∃ h, hdX 9 0 2 0 ⟨0, 2, [2], true⟩ = h := ⟨_, rfl⟩
  have hmp : h.mp = ((0 : Nat) : Int) := by rw [← hh]; rfl
  have hbk2 : h.bk = 2 := by rw [← hh]; rfl
  have hrm : h.rm = ((8192 : Nat) : Int) := by rw [← hh]; rfl
  rw [hh] at hck
  have hnw := newK_d (bts la 32768 32768 R) la 32768 32768 R h 0 8192 hl (Nat.le_refl _) (by decide) hs1 xh1.b Xg.reads_own hck (by decide) (Or.inl rfl) hmp hrm (by decide)
  (focus
    refine Xg.ops_op (by kernel_rfl) (Xg.opx_callE' [0] (fun xx1 => [CTP (0 : Nat) xx1 h rg0 R (List.replicate (8192 : Nat) (0 : Int)), bts la (32768 : Nat) (32768 : Nat) R, A, TyP te ta tc]) (fun _ => by kernel_rfl) (@hnw ) (by kernel_rfl) (by kernel_rfl) (by kernel_rfl) fun xx1 xh2 => ?_)
    try dsimp only at xh2
    refine Xg.ops_op (by kernel_rfl) (Xg.opx_pure ((Value.tuple #[pv xx1.p 0, iv 0])) rfl (fun _ => by kernel_rfl) ?_)
    refine Xg.ops_op (by kernel_rfl) (Xg.opx_pure ((pv xx1.p 0)) rfl (fun _ => by kernel_rfl) ?_)
    refine Xg.ops_op (by kernel_rfl) (Xg.opx_pure ((iv 0)) rfl (fun _ => by kernel_rfl) ?_)
    refine Xg.ops_op (by kernel_rfl) (Xg.opx_pure ((pv xx1.p 0)) rfl (fun _ => by kernel_rfl) ?_)
    refine Xg.ops_op (by kernel_rfl) (Xg.opx_pure ((iv 0)) rfl (fun _ => by kernel_rfl) ?_)
    refine Xg.ops_nil ?_
    refine Xg.at_seq ?_
    refine Xg.at_seq ?_
    refine Xg.at_region ?_
    refine Xg.ops_op (by kernel_rfl) (Xg.opx_pure ((pv xx1.p 0)) rfl (fun _ => by kernel_rfl) ?_)
    refine Xg.ops_op (by kernel_rfl) (Xg.opx_pure ((Value.bool false)) rfl (fun _ => by kernel_rfl) ?_)
    refine Xg.ops_op (by kernel_rfl) (Xg.opx_pure ((Value.bool false)) rfl (fun _ => by kernel_rfl) ?_)
    refine Xg.ops_op (by kernel_rfl) (Xg.opx_pure ((iv 0)) rfl (fun _ => by kernel_rfl) ?_)
    refine Xg.ops_op (by kernel_rfl) (Xg.opx_pure ((Value.bool false)) rfl (fun _ => by kernel_rfl) ?_)
    refine Xg.ops_op (by kernel_rfl) (Xg.opx_pure ((Value.bool false)) rfl (fun _ => by kernel_rfl) ?_)
    refine Xg.ops_nil ?_
    refine Xg.at_false (t := false) (by kernel_rfl) rfl ?_
    refine Xg.at_skip ?_
    refine Xg.at_seq ?_)
  have hrc : 32768 ≤ xx1.rc := by assumption
  obtain ⟨ct, hx⟩ : ∃ ct, xx1 = ct := ⟨_, rfl⟩
  rw [hx] at hrc ⊢
  have hrep : (List.replicate 8192 (0 : Int)).length = 8192 := List.length_replicate
  have hB0 := isB_rep 8192
  have hz0 : (List.replicate 8192 (0 : Int)).getD o 0 = 0 := by
    rw [List.getD_eq_getElem?_getD, List.getElem?_replicate, if_pos ho8]; rfl
  obtain ⟨M0, hM0⟩ : ∃ M0, List.replicate 8192 (0 : Int) = M0 := ⟨_, rfl⟩
  rw [hM0] at hrep hB0 hz0 ⊢
  have hrok : rg0.Ok := ⟨by decide, by decide, by decide, by decide, by decide⟩
  have okX : ∀ (M : List Int), M.length = 8192 → isB M → CtOk 0 ct h rg0 R M := fun M h2 h3 => ⟨Or.inl rfl, hmp, hrok, by rw [hbk2]; decide, by rw [hl, hbk2]; decide, by rw [hl]; exact hrc, h3, by rw [h2]; exact Or.inr (Or.inr ⟨by decide, by decide, by decide, by decide⟩)⟩
  have hci := cell_flat o ho8
  have hvo := vjI_ok V nv 0 hVl hVo (by omega)
  have hbb := rv_v 0 (vjI V nv 0) hvo
  have hrv : ramV 0 (vjI V nv 0) = vjI V nv 0 := by unfold ramV; rw [if_neg (by decide)]
  rw [hrv, show hgK 0 = 0 from rfl] at hbb
  (focus
    refine Xg.at_region ?_
    refine Xg.ops_op (by kernel_rfl) (Xg.opx_pure ((iv 9)) rfl (fun _ => by kernel_rfl) ?_)
    refine Xg.ops_op (by kernel_rfl) (Xg.opx_pure ((Value.bool false)) rfl (fun _ => by kernel_rfl) ?_)
    refine Xg.ops_op (by kernel_rfl) (Xg.opx_pure ((Value.bool false)) rfl (fun _ => by kernel_rfl) ?_)
    refine Xg.ops_nil ?_
    refine Xg.at_seq ?_
    refine Xg.at_region ?_
    refine Xg.ops_op (by kernel_rfl) (Xg.opx_pure ((iv at0)) rfl (fun _ => by kernel_rfl) ?_)
    refine Xg.ops_op (by kernel_rfl) (Xg.opx_call1' [] [CTP (0 : Nat) ct h rg0 R M0, bts la (32768 : Nat) (32768 : Nat) R, A, TyP te ta tc] (fun _ => by kernel_rfl) (@hpa ) (by kernel_rfl) (by kernel_rfl) (by kernel_rfl) ?_)
    refine Xg.ops_op (by kernel_rfl) (Xg.opx_int .i64 (IntKind.wrap .i64 (((40960 : Int) + (↑o : Int)))) rfl (fun _ => by kernel_rfl) (Xg.wrap_i64_in (by omega)) ?_)
    refine Xg.ops_op (by kernel_rfl) (Xg.opx_pure ((iv ((40960 : Int) + (↑o : Int)))) rfl (fun _ => by kernel_rfl) ?_)
    refine Xg.ops_nil ?_
    refine Xg.at_seq ?_
    refine Xg.at_seq ?_
    refine Xg.at_region ?_
    refine Xg.ops_op (by kernel_rfl) (Xg.opx_pure ((Value.bool false)) rfl (fun _ => by kernel_rfl) ?_)
    refine Xg.ops_nil ?_
    refine Xg.at_false (t := false) (by kernel_rfl) rfl ?_
    refine Xg.at_skip ?_
    refine Xg.at_seq ?_
    refine Xg.at_region ?_
    refine Xg.ops_op (by kernel_rfl) (Xg.opx_pure ((uv 0)) rfl (fun _ => by kernel_rfl) ?_)
    refine Xg.ops_nil ?_
    refine Xg.at_seq ?_
    refine Xg.at_seq ?_
    refine Xg.at_region ?_
    refine Xg.ops_op (by kernel_rfl) (Xg.opx_pure ((iv 9)) rfl (fun _ => by kernel_rfl) ?_)
    refine Xg.ops_op (by kernel_rfl) (Xg.opx_pure ((Value.bool false)) rfl (fun _ => by kernel_rfl) ?_)
    refine Xg.ops_nil ?_
    refine Xg.at_false (t := false) (by kernel_rfl) rfl ?_
    refine Xg.at_skip ?_
    refine Xg.at_seq ?_
    refine Xg.at_seq ?_
    refine Xg.at_region ?_
    refine Xg.ops_op (by kernel_rfl) (Xg.opx_pure ((iv 0)) rfl (fun _ => by kernel_rfl) ?_)
    refine Xg.ops_nil ?_
    refine Xg.at_block ?_)
  (focus
    refine Xg.at_keep [0, 2, 3] (by kernel_rfl) ?_
    refine Xg.at_rounds_inv (α := (Nat × List Int) × (Nat → Value)) (fun x => ((fun y => y.1 ≤ 1 ∧ y.2.length = 8192 ∧ isB y.2 ∧ y.2.getD o 0 = if 0 < y.1 then vjI V nv 0 else 0) : (Nat × List Int) → Prop) x.1) (fun x => ((fun y => 1 - y.1) : (Nat × List Int) → Nat) x.1) (fun x => Xg.headT [iv w, iv cd, Value.slice va nv vc, iv at0, iv sh, tu, tu, tu, tu, tu, Value.bool false, iv 9, iv 2, iv 1, pv ct.p 0, iv 0, Value.bool false, iv ((40960 : Int) + (↑o : Int)), uv 0, iv 0, tu, tu, tu, tu, tu, Value.slice ta (10 : Nat) tc, iv w, iv 0, iv 5, Value.pointer (some (Addr.mk (blk ta) (offA ta + (5 : Nat)) none)), iv 9, iv 9, Value.bool false, Value.bool false, Value.bool false, Value.bool false, Value.bool false, Value.bool false, tu, tu, tu, Value.tuple #[pv ct.p 0, iv 0], iv 9, iv 2, Value.agg #[iv 9, iv 0, iv 2, iv 0, iv 0, Value.slice none (0 : Nat) (0 : Nat), Value.slice none (0 : Nat) (0 : Nat), Value.bool false], Value.slice la (32768 : Nat) (32768 : Nat), Value.tuple #[pv ct.p 0, iv 0], pv ct.p 0, iv 0, pv ct.p 0, Value.bool false, Value.bool false, iv 0, Value.bool false, Value.bool false, iv 9, Value.bool false, iv at0, iv (↑o : Int), iv ((40960 : Int) + (↑o : Int)), Value.bool false, tu, tu, tu, tu, tu, tu, tu, tu, tu, tu, tu, iv 9, Value.bool false, tu, tu, tu, tu, tu, tu, tu, tu, tu, tu, tu, tu, tu, tu, tu, tu, tu, tu, tu, tu, tu, tu, tu, tu, tu, tu, tu, tu, tu, tu, tu, tu, tu, tu, tu, tu, tu, tu, tu, tu, tu, tu, tu, tu, tu, tu, tu, tu, tu, tu, tu, tu, tu, tu, tu, tu, tu, tu, tu, tu, tu, tu, tu, tu, tu, tu, tu, tu, tu, tu, tu, tu, tu, tu, tu, tu, tu, tu, tu, tu, tu, tu, tu, tu, tu, tu, tu, tu, tu, tu, tu, tu, tu, tu, tu, tu, tu, tu, tu, tu, tu, tu, tu, tu, tu, tu, tu, tu, tu, tu, tu] [10, 20, 74, 75, 76, 77, 78, 79, 80, 81, 82, 83, 84, 85, 86, 87, 88, 89, 90, 91, 92, 93, 94, 95, 96, 97, 98, 99, 100, 101, 102, 103, 104, 105, 106, 107, 108] (((fun y => [(19, .int .i64 (y.1 : Nat))]) : (Nat × List Int) → List (Nat × Go.Value)) x.1) x.2) (fun x => ((fun y => [CTP 0 ct h rg0 R y.2, A, TyP te ta tc]) : (Nat × List Int) → List Go.Sl.HP) x.1) (((0, M0)), fun j9 => ([iv w, iv cd, Value.slice va nv vc, iv at0, iv sh, tu, tu, tu, tu, tu, Value.bool false, iv 9, iv 2, iv 1, pv ct.p 0, iv 0, Value.bool false, iv ((40960 : Int) + (↑o : Int)), uv 0, iv 0, tu, tu, tu, tu, tu, Value.slice ta (10 : Nat) tc, iv w, iv 0, iv 5, Value.pointer (some (Addr.mk (blk ta) (offA ta + (5 : Nat)) none)), iv 9, iv 9, Value.bool false, Value.bool false, Value.bool false, Value.bool false, Value.bool false, Value.bool false, tu, tu, tu, Value.tuple #[pv ct.p 0, iv 0], iv 9, iv 2, Value.agg #[iv 9, iv 0, iv 2, iv 0, iv 0, Value.slice none (0 : Nat) (0 : Nat), Value.slice none (0 : Nat) (0 : Nat), Value.bool false], Value.slice la (32768 : Nat) (32768 : Nat), Value.tuple #[pv ct.p 0, iv 0], pv ct.p 0, iv 0, pv ct.p 0, Value.bool false, Value.bool false, iv 0, Value.bool false, Value.bool false, iv 9, Value.bool false, iv at0, iv (↑o : Int), iv ((40960 : Int) + (↑o : Int)), Value.bool false, tu, tu, tu, tu, tu, tu, tu, tu, tu, tu, tu, iv 9, Value.bool false, tu, tu, tu, tu, tu, tu, tu, tu, tu, tu, tu, tu, tu, tu, tu, tu, tu, tu, tu, tu, tu, tu, tu, tu, tu, tu, tu, tu, tu, tu, tu, tu, tu, tu, tu, tu, tu, tu, tu, tu, tu, tu, tu, tu, tu, tu, tu, tu, tu, tu, tu, tu, tu, tu, tu, tu, tu, tu, tu, tu, tu, tu, tu, tu, tu, tu, tu, tu, tu, tu, tu, tu, tu, tu, tu, tu, tu, tu, tu, tu, tu, tu, tu, tu, tu, tu, tu, tu, tu, tu, tu, tu, tu, tu, tu, tu, tu, tu, tu, tu, tu, tu, tu, tu, tu, tu, tu, tu, tu, tu, tu] : List Value).getD j9 undef) (by kernel_rfl) (by kernel_rfl) ?_ ?_)
  · exact ⟨Nat.zero_le _, hrep, hB0, by rw [if_neg (Nat.lt_irrefl _)]; exact hz0⟩
  rintro ⟨⟨i, M⟩, J1⟩ hI ih
  obtain ⟨hi, hM, hB, hf⟩ := hI
  dsimp only at hi hM hB hf
  (focus
    refine Xg.At.same (T' := [iv w, iv cd, Value.slice va nv vc, iv at0, iv sh, tu, tu, tu, tu, tu, J1 10, iv 9, iv 2, iv 1, pv ct.p 0, iv 0, Value.bool false, iv ((40960 : Int) + (↑o : Int)), uv 0, iv (↑i : Int), J1 20, tu, tu, tu, tu, Value.slice ta (10 : Nat) tc, iv w, iv 0, iv 5, Value.pointer (some (Addr.mk (blk ta) (offA ta + (5 : Nat)) none)), iv 9, iv 9, Value.bool false, Value.bool false, Value.bool false, Value.bool false, Value.bool false, Value.bool false, tu, tu, tu, Value.tuple #[pv ct.p 0, iv 0], iv 9, iv 2, Value.agg #[iv 9, iv 0, iv 2, iv 0, iv 0, Value.slice none (0 : Nat) (0 : Nat), Value.slice none (0 : Nat) (0 : Nat), Value.bool false], Value.slice la (32768 : Nat) (32768 : Nat), Value.tuple #[pv ct.p 0, iv 0], pv ct.p 0, iv 0, pv ct.p 0, Value.bool false, Value.bool false, iv 0, Value.bool false, Value.bool false, iv 9, Value.bool false, iv at0, iv (↑o : Int), iv ((40960 : Int) + (↑o : Int)), Value.bool false, tu, tu, tu, tu, tu, tu, tu, tu, tu, tu, tu, iv 9, Value.bool false, J1 74, J1 75, J1 76, J1 77, J1 78, J1 79, J1 80, J1 81, J1 82, J1 83, J1 84, J1 85, J1 86, J1 87, J1 88, J1 89, J1 90, J1 91, J1 92, J1 93, J1 94, J1 95, J1 96, J1 97, J1 98, J1 99, J1 100, J1 101, J1 102, J1 103, J1 104, J1 105, J1 106, J1 107, J1 108, tu, tu, tu, tu, tu, tu, tu, tu, tu, tu, tu, tu, tu, tu, tu, tu, tu, tu, tu, tu, tu, tu, tu, tu, tu, tu, tu, tu, tu, tu, tu, tu, tu, tu, tu, tu, tu, tu, tu, tu, tu, tu, tu, tu, tu, tu, tu, tu, tu, tu, tu, tu, tu, tu, tu, tu, tu, tu, tu, tu, tu, tu, tu, tu, tu, tu, tu, tu, tu, tu, tu, tu, tu, tu, tu, tu]) (L' := [CTP (0 : Nat) ct h rg0 R ((i, M), J1).fst.snd, A, TyP te ta tc]) (by kernel_rfl) rfl ?_)
  by_cases hlt : i < 1
  · have hi0 : i = 0 := by omega
    rw [if_neg (by omega)] at hf
    have oki := okX M hM hB
    have hrd := readK_d oki (40960 + (o : Int)) ⟨by omega, by omega⟩
    rw [read_onK 0 _ h.bk R M _ _ (by omega) (by rw [hM]; exact hci), hf, rv_zero, show hgK 0 = 0 from rfl] at hrd
    (focus
      refine Xg.at_seq ?_
      refine Xg.at_seq ?_
      refine Xg.at_region ?_
      refine Xg.ops_op (by kernel_rfl) (Xg.opx_pure ((iv (↑i : Int))) rfl (fun _ => by kernel_rfl) ?_)
      refine Xg.ops_op (by kernel_rfl) (Xg.opx_pure ((iv 1)) rfl (fun _ => by kernel_rfl) ?_)
      refine Xg.ops_op (by kernel_rfl) (Xg.opx_pure (.bool (decide ((((↑i : Int)) : Int) < ((1 : Int))))) rfl (fun _ => by kernel_rfl) ?_)
      refine Xg.ops_nil ?_
      refine Xg.at_true (t := decide (((↑i : Int) < (1 : Int)))) (by kernel_rfl) (decide_eq_true (by omega)) ?_
      refine Xg.at_skip ?_
      refine Xg.at_seq ?_
      refine Xg.at_block ?_
      refine Xg.at_seq ?_
      refine Xg.at_seq ?_
      refine Xg.at_region ?_
      refine Xg.ops_op (by kernel_rfl) (Xg.opx_pure ((Value.bool false)) rfl (fun _ => by kernel_rfl) ?_)
      refine Xg.ops_op (by kernel_rfl) (Xg.opx_pure ((Value.bool false)) rfl (fun _ => by kernel_rfl) ?_)
      refine Xg.ops_skip (by kernel_rfl) ?_
      refine Xg.ops_skip (by kernel_rfl) ?_
      refine Xg.ops_op (by kernel_rfl) (Xg.opx_pure ((Value.bool false)) rfl (fun _ => by kernel_rfl) ?_)
      refine Xg.ops_nil ?_
      refine Xg.at_false (t := false) (by kernel_rfl) rfl ?_
      refine Xg.at_skip ?_
      refine Xg.at_seq ?_
      refine Xg.at_seq ?_
      refine Xg.at_region ?_
      refine Xg.ops_op (by kernel_rfl) (Xg.opx_pure ((pv ct.p 0)) rfl (fun _ => by kernel_rfl) ?_)
      refine Xg.ops_op (by kernel_rfl) (Xg.opx_pure ((iv ((40960 : Int) + (↑o : Int)))) rfl (fun _ => by kernel_rfl) ?_)
      refine Xg.ops_op (by kernel_rfl) (Xg.opx_call1' [0] [CTP (0 : Nat) ct h rg0 R M, A, TyP te ta tc] (fun _ => by kernel_rfl) (@hrd ) (by kernel_rfl) (by kernel_rfl) (by kernel_rfl) ?_)
      refine Xg.ops_op (by kernel_rfl) (Xg.opx_pure ((uv 0)) rfl (fun _ => by kernel_rfl) ?_)
      refine Xg.ops_op (by kernel_rfl) (Xg.opx_pure ((Value.bool false)) rfl (fun _ => by kernel_rfl) ?_)
      refine Xg.ops_nil ?_
      refine Xg.at_false (t := false) (by kernel_rfl) rfl ?_
      refine Xg.at_skip ?_
      refine Xg.at_seq ?_
      refine Xg.at_region ?_
      refine Xg.ops_op (by kernel_rfl) (Xg.opx_pure ((iv (↑i : Int))) rfl (fun _ => by kernel_rfl) ?_)
      refine Xg.ops_op (by kernel_rfl) (Xg.opx_int .i64 (IntKind.wrap .i64 (((↑i : Int) + (1 : Int)))) rfl (fun _ => by kernel_rfl) (Xg.wrap_i64_in (by omega)) ?_)
      refine Xg.ops_op (by kernel_rfl) (Xg.opx_int .u8 (IntKind.wrap .u8 (((↑i : Int) + (1 : Int)))) rfl (fun _ => by kernel_rfl) (Xg.wrap_u8_in (by omega)) ?_)
      refine Xg.ops_op (by kernel_rfl) (Xg.opx_pure ((uv ((↑i : Int) + (1 : Int)))) rfl (fun _ => by kernel_rfl) ?_)
      refine Xg.ops_nil ?_
      refine Xg.at_seq ?_
      refine Xg.at_seq ?_
      refine Xg.at_region ?_
      refine Xg.ops_op (by kernel_rfl) (Xg.opx_pure ((iv (↑i : Int))) rfl (fun _ => by kernel_rfl) ?_)
      refine Xg.ops_op (by kernel_rfl) (Xg.opx_pure ((Value.slice va nv vc)) rfl (fun _ => by kernel_rfl) ?_)
      refine Xg.ops_op (by kernel_rfl) (Xg.opx_pure ((iv (↑nv : Int))) rfl (fun _ => by kernel_rfl) ?_)
      refine Xg.ops_op (by kernel_rfl) (Xg.opx_pure (.bool (decide ((((↑i : Int)) : Int) < ((↑nv : Int))))) rfl (fun _ => by kernel_rfl) ?_)
      refine Xg.ops_nil ?_)
    (focus
      refine Xg.at_cut (α := (Int) × (Nat → Value)) (fun x9 => ((fun v => vjI V nv 0 = v) : (Int) → Prop) x9.1) (fun x9 => Xg.headT [iv w, iv cd, Value.slice va nv vc, iv at0, iv sh, tu, tu, tu, tu, tu, J1 10, iv 9, iv 2, iv 1, pv ct.p 0, iv 0, Value.bool false, iv ((40960 : Int) + (↑o : Int)), uv 0, iv (↑i : Int), uv ((↑i : Int) + (1 : Int)), tu, tu, tu, tu, Value.slice ta (10 : Nat) tc, iv w, iv 0, iv 5, Value.pointer (some (Addr.mk (blk ta) (offA ta + (5 : Nat)) none)), iv 9, iv 9, Value.bool false, Value.bool false, Value.bool false, Value.bool false, Value.bool false, Value.bool false, tu, tu, tu, Value.tuple #[pv ct.p 0, iv 0], iv 9, iv 2, Value.agg #[iv 9, iv 0, iv 2, iv 0, iv 0, Value.slice none (0 : Nat) (0 : Nat), Value.slice none (0 : Nat) (0 : Nat), Value.bool false], Value.slice la (32768 : Nat) (32768 : Nat), Value.tuple #[pv ct.p 0, iv 0], pv ct.p 0, iv 0, pv ct.p 0, Value.bool false, Value.bool false, iv 0, Value.bool false, Value.bool false, iv 9, Value.bool false, iv at0, iv (↑o : Int), iv ((40960 : Int) + (↑o : Int)), Value.bool false, tu, tu, tu, tu, tu, tu, tu, tu, tu, tu, tu, iv 9, Value.bool false, iv (↑i : Int), iv 1, Value.bool (decide ((↑i : Int) < (1 : Int))), J1 77, J1 78, Value.bool false, Value.bool false, tu, tu, Value.bool false, J1 84, J1 85, J1 86, J1 87, pv ct.p 0, iv ((40960 : Int) + (↑o : Int)), uv 0, uv 0, Value.bool false, iv (↑i : Int), iv ((↑i : Int) + (1 : Int)), uv ((↑i : Int) + (1 : Int)), iv (↑i : Int), Value.slice va nv vc, iv (↑nv : Int), Value.bool (decide ((↑i : Int) < (↑nv : Int))), J1 100, J1 101, J1 102, J1 103, J1 104, J1 105, J1 106, J1 107, J1 108, tu, tu, tu, tu, tu, tu, tu, tu, tu, tu, tu, tu, tu, tu, tu, tu, tu, tu, tu, tu, tu, tu, tu, tu, tu, tu, tu, tu, tu, tu, tu, tu, tu, tu, tu, tu, tu, tu, tu, tu, tu, tu, tu, tu, tu, tu, tu, tu, tu, tu, tu, tu, tu, tu, tu, tu, tu, tu, tu, tu, tu, tu, tu, tu, tu, tu, tu, tu, tu, tu, tu, tu, tu, tu, tu, tu] [100, 101, 102, 103, 104] (((fun v => [(20, .int .u8 v)]) : (Int) → List (Nat × Go.Value)) x9.1) x9.2) (fun x9 => ((fun v => [CTP 0 ct h rg0 R M, A, TyP te ta tc]) : (Int) → List Go.Sl.HP) x9.1) (fun kk hk => ?_) ?_)
    · by_cases hiv : i < nv
      · (focus
          refine Xg.at_true (t := decide (((↑i : Int) < (↑nv : Int)))) (by kernel_rfl) (decide_eq_true (by omega)) ?_
          refine Xg.at_region ?_
          refine Xg.ops_op (by kernel_rfl) (Xg.opx_pure ((Value.slice va nv vc)) rfl (fun _ => by kernel_rfl) ?_)
          refine Xg.ops_op (by kernel_rfl) (Xg.opx_pure ((iv (↑i : Int))) rfl (fun _ => by kernel_rfl) ?_)
          refine Xg.ops_op (by kernel_rfl) (Xg.opx_rd 1 (.pointer (some (Addr.mk (Xg.blk va) (offA va + i) none))) rfl hV (by kernel_rfl) (Xg.run_ix_rd (elem := 3) (kd := .i64) (e := ((↑i : Int))) 1 i (offA va + i) (by kernel_rfl) (by kernel_rfl) (by kernel_rfl) (by kernel_rfl) rfl (by omega) (by simp only [List.length_map]; omega) (by omega)) ?_)
          refine Xg.ops_op (by kernel_rfl) (Xg.opx_rd 1 (iv (V.getD i (0 : Int))) rfl hV (by kernel_rfl) (Xg.run_load_rd (off0 := (offA va + i)) i (by kernel_rfl) (by omega) (Xg.get_ints (by omega)) (by kernel_rfl)) ?_)
          refine Xg.ops_op (by kernel_rfl) (Xg.opx_int .u8 (IntKind.wrap .u8 ((V.getD i (0 : Int)))) rfl (fun _ => by kernel_rfl) (Xg.wrap_u8_mod _) ?_)
          refine Xg.ops_op (by kernel_rfl) (Xg.opx_pure ((uv (V.getD i (0 : Int) % (256 : Int)))) rfl (fun _ => by kernel_rfl) ?_)
          refine Xg.ops_nil ?_)
        (focus
          refine Xg.at_keep [0, 1, 2] (by kernel_rfl) ?_
          refine Xg.At.same (by kernel_rfl) ?_ (hk (((V.getD i 0 % 256)), fun j9 => ([iv w, iv cd, Value.slice va nv vc, iv at0, iv sh, tu, tu, tu, tu, tu, J1 10, iv 9, iv 2, iv 1, pv ct.p 0, iv 0, Value.bool false, iv ((40960 : Int) + (↑o : Int)), uv 0, iv (↑i : Int), uv (V.getD i (0 : Int) % (256 : Int)), tu, tu, tu, tu, Value.slice ta (10 : Nat) tc, iv w, iv 0, iv 5, Value.pointer (some (Addr.mk (blk ta) (offA ta + (5 : Nat)) none)), iv 9, iv 9, Value.bool false, Value.bool false, Value.bool false, Value.bool false, Value.bool false, Value.bool false, tu, tu, tu, Value.tuple #[pv ct.p 0, iv 0], iv 9, iv 2, Value.agg #[iv 9, iv 0, iv 2, iv 0, iv 0, Value.slice none (0 : Nat) (0 : Nat), Value.slice none (0 : Nat) (0 : Nat), Value.bool false], Value.slice la (32768 : Nat) (32768 : Nat), Value.tuple #[pv ct.p 0, iv 0], pv ct.p 0, iv 0, pv ct.p 0, Value.bool false, Value.bool false, iv 0, Value.bool false, Value.bool false, iv 9, Value.bool false, iv at0, iv (↑o : Int), iv ((40960 : Int) + (↑o : Int)), Value.bool false, tu, tu, tu, tu, tu, tu, tu, tu, tu, tu, tu, iv 9, Value.bool false, iv (↑i : Int), iv 1, Value.bool (decide ((↑i : Int) < (1 : Int))), J1 77, J1 78, Value.bool false, Value.bool false, tu, tu, Value.bool false, J1 84, J1 85, J1 86, J1 87, pv ct.p 0, iv ((40960 : Int) + (↑o : Int)), uv 0, uv 0, Value.bool false, iv (↑i : Int), iv ((↑i : Int) + (1 : Int)), uv ((↑i : Int) + (1 : Int)), iv (↑i : Int), Value.slice va nv vc, iv (↑nv : Int), Value.bool (decide ((↑i : Int) < (↑nv : Int))), Value.slice va nv vc, iv (↑i : Int), Value.pointer (some (Addr.mk (blk va) (offA va + i) none)), iv (V.getD i (0 : Int)), uv (V.getD i (0 : Int) % (256 : Int)), J1 105, J1 106, J1 107, J1 108, tu, tu, tu, tu, tu, tu, tu, tu, tu, tu, tu, tu, tu, tu, tu, tu, tu, tu, tu, tu, tu, tu, tu, tu, tu, tu, tu, tu, tu, tu, tu, tu, tu, tu, tu, tu, tu, tu, tu, tu, tu, tu, tu, tu, tu, tu, tu, tu, tu, tu, tu, tu, tu, tu, tu, tu, tu, tu, tu, tu, tu, tu, tu, tu, tu, tu, tu, tu, tu, tu, tu, tu, tu, tu, tu, tu] : List Value).getD j9 undef) ?_))
        · rfl
        · rw [hi0] at hiv ⊢; unfold vjI; rw [if_pos hiv]
      · (focus
          refine Xg.at_false (t := decide (((↑i : Int) < (↑nv : Int)))) (by kernel_rfl) (decide_eq_false (by omega)) ?_
          refine Xg.at_skip ?_)
        (focus
          refine Xg.at_keep [0, 1, 2] (by kernel_rfl) ?_
          refine Xg.At.same (by kernel_rfl) ?_ (hk ((((i : Int) + 1)), fun j9 => ([iv w, iv cd, Value.slice va nv vc, iv at0, iv sh, tu, tu, tu, tu, tu, J1 10, iv 9, iv 2, iv 1, pv ct.p 0, iv 0, Value.bool false, iv ((40960 : Int) + (↑o : Int)), uv 0, iv (↑i : Int), uv ((↑i : Int) + (1 : Int)), tu, tu, tu, tu, Value.slice ta (10 : Nat) tc, iv w, iv 0, iv 5, Value.pointer (some (Addr.mk (blk ta) (offA ta + (5 : Nat)) none)), iv 9, iv 9, Value.bool false, Value.bool false, Value.bool false, Value.bool false, Value.bool false, Value.bool false, tu, tu, tu, Value.tuple #[pv ct.p 0, iv 0], iv 9, iv 2, Value.agg #[iv 9, iv 0, iv 2, iv 0, iv 0, Value.slice none (0 : Nat) (0 : Nat), Value.slice none (0 : Nat) (0 : Nat), Value.bool false], Value.slice la (32768 : Nat) (32768 : Nat), Value.tuple #[pv ct.p 0, iv 0], pv ct.p 0, iv 0, pv ct.p 0, Value.bool false, Value.bool false, iv 0, Value.bool false, Value.bool false, iv 9, Value.bool false, iv at0, iv (↑o : Int), iv ((40960 : Int) + (↑o : Int)), Value.bool false, tu, tu, tu, tu, tu, tu, tu, tu, tu, tu, tu, iv 9, Value.bool false, iv (↑i : Int), iv 1, Value.bool (decide ((↑i : Int) < (1 : Int))), J1 77, J1 78, Value.bool false, Value.bool false, tu, tu, Value.bool false, J1 84, J1 85, J1 86, J1 87, pv ct.p 0, iv ((40960 : Int) + (↑o : Int)), uv 0, uv 0, Value.bool false, iv (↑i : Int), iv ((↑i : Int) + (1 : Int)), uv ((↑i : Int) + (1 : Int)), iv (↑i : Int), Value.slice va nv vc, iv (↑nv : Int), Value.bool (decide ((↑i : Int) < (↑nv : Int))), J1 100, J1 101, J1 102, J1 103, J1 104, J1 105, J1 106, J1 107, J1 108, tu, tu, tu, tu, tu, tu, tu, tu, tu, tu, tu, tu, tu, tu, tu, tu, tu, tu, tu, tu, tu, tu, tu, tu, tu, tu, tu, tu, tu, tu, tu, tu, tu, tu, tu, tu, tu, tu, tu, tu, tu, tu, tu, tu, tu, tu, tu, tu, tu, tu, tu, tu, tu, tu, tu, tu, tu, tu, tu, tu, tu, tu, tu, tu, tu, tu, tu, tu, tu, tu, tu, tu, tu, tu, tu, tu] : List Value).getD j9 undef) ?_))
        · rfl
        · rw [hi0] at hiv ⊢; unfold vjI; rw [if_neg hiv]
    rintro ⟨v, J2⟩ hv
    dsimp only at hv
    subst hv
    (focus
      refine Xg.At.same (T' := [iv w, iv cd, Value.slice va nv vc, iv at0, iv sh, tu, tu, tu, tu, tu, J1 10, iv 9, iv 2, iv 1, pv ct.p 0, iv 0, Value.bool false, iv ((40960 : Int) + (↑o : Int)), uv 0, iv (↑i : Int), uv (vjI V nv (0 : Nat)), tu, tu, tu, tu, Value.slice ta (10 : Nat) tc, iv w, iv 0, iv 5, Value.pointer (some (Addr.mk (blk ta) (offA ta + (5 : Nat)) none)), iv 9, iv 9, Value.bool false, Value.bool false, Value.bool false, Value.bool false, Value.bool false, Value.bool false, tu, tu, tu, Value.tuple #[pv ct.p 0, iv 0], iv 9, iv 2, Value.agg #[iv 9, iv 0, iv 2, iv 0, iv 0, Value.slice none (0 : Nat) (0 : Nat), Value.slice none (0 : Nat) (0 : Nat), Value.bool false], Value.slice la (32768 : Nat) (32768 : Nat), Value.tuple #[pv ct.p 0, iv 0], pv ct.p 0, iv 0, pv ct.p 0, Value.bool false, Value.bool false, iv 0, Value.bool false, Value.bool false, iv 9, Value.bool false, iv at0, iv (↑o : Int), iv ((40960 : Int) + (↑o : Int)), Value.bool false, tu, tu, tu, tu, tu, tu, tu, tu, tu, tu, tu, iv 9, Value.bool false, iv (↑i : Int), iv 1, Value.bool (decide ((↑i : Int) < (1 : Int))), J1 77, J1 78, Value.bool false, Value.bool false, tu, tu, Value.bool false, J1 84, J1 85, J1 86, J1 87, pv ct.p 0, iv ((40960 : Int) + (↑o : Int)), uv 0, uv 0, Value.bool false, iv (↑i : Int), iv ((↑i : Int) + (1 : Int)), uv ((↑i : Int) + (1 : Int)), iv (↑i : Int), Value.slice va nv vc, iv (↑nv : Int), Value.bool (decide ((↑i : Int) < (↑nv : Int))), J2 100, J2 101, J2 102, J2 103, J2 104, J1 105, J1 106, J1 107, J1 108, tu, tu, tu, tu, tu, tu, tu, tu, tu, tu, tu, tu, tu, tu, tu, tu, tu, tu, tu, tu, tu, tu, tu, tu, tu, tu, tu, tu, tu, tu, tu, tu, tu, tu, tu, tu, tu, tu, tu, tu, tu, tu, tu, tu, tu, tu, tu, tu, tu, tu, tu, tu, tu, tu, tu, tu, tu, tu, tu, tu, tu, tu, tu, tu, tu, tu, tu, tu, tu, tu, tu, tu, tu, tu, tu, tu]) (L' := [CTP (0 : Nat) ct h rg0 R M, A, TyP te ta tc]) (by kernel_rfl) rfl ?_)
    have hwM := writeMK_d oki (40960 + (o : Int)) (vjI V nv 0) ⟨by omega, by omega⟩ (Or.inr (by omega)) hvo (by rw [hM, hci]; omega)
    rw [hM, hci, Int.toNat_natCast, hrv] at hwM
    (focus
      refine Xg.at_region ?_
      refine Xg.ops_op (by kernel_rfl) (Xg.opx_pure ((pv ct.p 0)) rfl (fun _ => by kernel_rfl) ?_)
      refine Xg.ops_op (by kernel_rfl) (Xg.opx_pure ((iv ((40960 : Int) + (↑o : Int)))) rfl (fun _ => by kernel_rfl) ?_)
      refine Xg.ops_op (by kernel_rfl) (Xg.opx_pure ((uv (vjI V nv (0 : Nat)))) rfl (fun _ => by kernel_rfl) ?_)
      refine Xg.ops_op (by kernel_rfl) (Xg.opx_call1' [0] [CTP (0 : Nat) ct h rg0 R (M.set o (vjI V nv (0 : Nat))), A, TyP te ta tc] (fun _ => by kernel_rfl) (@hwM ) (by kernel_rfl) (by kernel_rfl) (by kernel_rfl) ?_)
      refine Xg.ops_nil ?_
      refine Xg.at_inBlock ?_
      refine Xg.at_region ?_
      refine Xg.ops_op (by kernel_rfl) (Xg.opx_pure ((iv (↑i : Int))) rfl (fun _ => by kernel_rfl) ?_)
      refine Xg.ops_op (by kernel_rfl) (Xg.opx_int .i64 (IntKind.wrap .i64 (((↑i : Int) + (1 : Int)))) rfl (fun _ => by kernel_rfl) (Xg.wrap_i64_in (by omega)) ?_)
      refine Xg.ops_op (by kernel_rfl) (Xg.opx_pure ((iv ((↑i : Int) + (1 : Int)))) rfl (fun _ => by kernel_rfl) ?_)
      refine Xg.ops_nil ?_
      refine Xg.at_inLoop ?_)
    (focus
      refine Xg.at_keep [0, 1, 2] (by kernel_rfl) ?_
      refine Xs.same ?_ (fun J9 => ih (((i + 1, M.set o (vjI V nv 0))), J9) ?_ ?_) (by kernel_rfl))
    · rfl
    · refine ⟨hlt, by rw [List.length_set]; exact hM, isB_set _ hB hvo, ?_⟩
      show (M.set o (vjI V nv 0)).getD o 0 = if 0 < i + 1 then vjI V nv 0 else 0
      rw [getD_set _ _ _ _ (by omega), if_pos rfl, if_pos (Nat.succ_pos _)]
    · show 1 - (i + 1) < 1 - i; omega
  clear ih
  rw [if_pos (by omega)] at hf
  have oki := okX M hM hB
  have hrd := readK_d oki (40960 + (o : Int)) ⟨by omega, by omega⟩
  rw [read_onK 0 _ h.bk R M _ _ (by omega) (by rw [hM]; exact hci), hf, hbb] at hrd
  (focus
    refine Xg.at_seq ?_
    refine Xg.at_seq ?_
    refine Xg.at_region ?_
    refine Xg.ops_op (by kernel_rfl) (Xg.opx_pure ((iv (↑i : Int))) rfl (fun _ => by kernel_rfl) ?_)
    refine Xg.ops_op (by kernel_rfl) (Xg.opx_pure ((iv 1)) rfl (fun _ => by kernel_rfl) ?_)
    refine Xg.ops_op (by kernel_rfl) (Xg.opx_pure (.bool (decide ((((↑i : Int)) : Int) < ((1 : Int))))) rfl (fun _ => by kernel_rfl) ?_)
    refine Xg.ops_nil ?_
    refine Xg.at_false (t := decide (((↑i : Int) < (1 : Int)))) (by kernel_rfl) (decide_eq_false (by omega)) ?_
    refine Xg.at_exit rfl ?_
    refine Xg.at_seq ?_
    refine Xg.at_seq ?_
    refine Xg.at_region ?_
    refine Xg.ops_op (by kernel_rfl) (Xg.opx_pure ((iv 0)) rfl (fun _ => by kernel_rfl) ?_)
    refine Xg.ops_nil ?_
    refine Xg.at_block ?_)
  (focus
    refine Xg.at_rounds_inv (α := (Nat) × (Nat → Value)) (fun x => ((fun y => y ≤ 1) : (Nat) → Prop) x.1) (fun x => ((fun y => 1 - y) : (Nat) → Nat) x.1) (fun x => Xg.headT [iv w, iv cd, Value.slice va nv vc, iv at0, iv sh, tu, tu, tu, tu, tu, J1 10, iv 9, iv 2, iv 1, pv ct.p 0, iv 0, Value.bool false, iv ((40960 : Int) + (↑o : Int)), uv 0, iv (↑i : Int), J1 20, iv 0, tu, tu, tu, Value.slice ta (10 : Nat) tc, iv w, iv 0, iv 5, Value.pointer (some (Addr.mk (blk ta) (offA ta + (5 : Nat)) none)), iv 9, iv 9, Value.bool false, Value.bool false, Value.bool false, Value.bool false, Value.bool false, Value.bool false, tu, tu, tu, Value.tuple #[pv ct.p 0, iv 0], iv 9, iv 2, Value.agg #[iv 9, iv 0, iv 2, iv 0, iv 0, Value.slice none (0 : Nat) (0 : Nat), Value.slice none (0 : Nat) (0 : Nat), Value.bool false], Value.slice la (32768 : Nat) (32768 : Nat), Value.tuple #[pv ct.p 0, iv 0], pv ct.p 0, iv 0, pv ct.p 0, Value.bool false, Value.bool false, iv 0, Value.bool false, Value.bool false, iv 9, Value.bool false, iv at0, iv (↑o : Int), iv ((40960 : Int) + (↑o : Int)), Value.bool false, tu, tu, tu, tu, tu, tu, tu, tu, tu, tu, tu, iv 9, Value.bool false, iv (↑i : Int), iv 1, Value.bool (decide ((↑i : Int) < (1 : Int))), J1 77, J1 78, J1 79, J1 80, J1 81, J1 82, J1 83, J1 84, J1 85, J1 86, J1 87, J1 88, J1 89, J1 90, J1 91, J1 92, J1 93, J1 94, J1 95, J1 96, J1 97, J1 98, J1 99, J1 100, J1 101, J1 102, J1 103, J1 104, J1 105, J1 106, J1 107, J1 108, tu, tu, tu, tu, tu, tu, tu, tu, tu, tu, tu, tu, tu, tu, tu, tu, tu, tu, tu, tu, tu, tu, tu, tu, tu, tu, tu, tu, tu, tu, tu, tu, tu, tu, tu, tu, tu, tu, tu, tu, tu, tu, tu, tu, tu, tu, tu, tu, tu, tu, tu, tu, tu, tu, tu, tu, tu, tu, tu, tu, tu, tu, tu, tu, tu, tu, tu, tu, tu, tu, tu, tu, tu, tu, tu, tu] [10, 22, 109, 110, 111, 112, 113, 114, 115, 116, 117, 118, 119, 120, 121, 122, 123, 124, 125, 126, 127, 128, 129, 130, 131, 132, 133, 134, 135, 136, 137, 138, 139, 140, 141, 142, 143] (((fun y => [(21, .int .i64 (y : Nat))]) : (Nat) → List (Nat × Go.Value)) x.1) x.2) (fun x => ((fun y => [CTP 0 ct h rg0 R M, A, TyP te ta tc]) : (Nat) → List Go.Sl.HP) x.1) ((0), fun j9 => ([iv w, iv cd, Value.slice va nv vc, iv at0, iv sh, tu, tu, tu, tu, tu, J1 10, iv 9, iv 2, iv 1, pv ct.p 0, iv 0, Value.bool false, iv ((40960 : Int) + (↑o : Int)), uv 0, iv (↑i : Int), J1 20, iv 0, tu, tu, tu, Value.slice ta (10 : Nat) tc, iv w, iv 0, iv 5, Value.pointer (some (Addr.mk (blk ta) (offA ta + (5 : Nat)) none)), iv 9, iv 9, Value.bool false, Value.bool false, Value.bool false, Value.bool false, Value.bool false, Value.bool false, tu, tu, tu, Value.tuple #[pv ct.p 0, iv 0], iv 9, iv 2, Value.agg #[iv 9, iv 0, iv 2, iv 0, iv 0, Value.slice none (0 : Nat) (0 : Nat), Value.slice none (0 : Nat) (0 : Nat), Value.bool false], Value.slice la (32768 : Nat) (32768 : Nat), Value.tuple #[pv ct.p 0, iv 0], pv ct.p 0, iv 0, pv ct.p 0, Value.bool false, Value.bool false, iv 0, Value.bool false, Value.bool false, iv 9, Value.bool false, iv at0, iv (↑o : Int), iv ((40960 : Int) + (↑o : Int)), Value.bool false, tu, tu, tu, tu, tu, tu, tu, tu, tu, tu, tu, iv 9, Value.bool false, iv (↑i : Int), iv 1, Value.bool (decide ((↑i : Int) < (1 : Int))), J1 77, J1 78, J1 79, J1 80, J1 81, J1 82, J1 83, J1 84, J1 85, J1 86, J1 87, J1 88, J1 89, J1 90, J1 91, J1 92, J1 93, J1 94, J1 95, J1 96, J1 97, J1 98, J1 99, J1 100, J1 101, J1 102, J1 103, J1 104, J1 105, J1 106, J1 107, J1 108, tu, tu, tu, tu, tu, tu, tu, tu, tu, tu, tu, tu, tu, tu, tu, tu, tu, tu, tu, tu, tu, tu, tu, tu, tu, tu, tu, tu, tu, tu, tu, tu, tu, tu, tu, tu, tu, tu, tu, tu, tu, tu, tu, tu, tu, tu, tu, tu, tu, tu, tu, tu, tu, tu, tu, tu, tu, tu, tu, tu, tu, tu, tu, tu, tu, tu, tu, tu, tu, tu, tu, tu, tu, tu, tu, tu] : List Value).getD j9 undef) (by kernel_rfl) (by kernel_rfl) ?_ ?_)
  · exact Nat.zero_le _
  rintro ⟨j, J3⟩ hI ih
  have hj := hI
  dsimp only at hj
  (focus
    refine Xg.At.same (T' := [iv w, iv cd, Value.slice va nv vc, iv at0, iv sh, tu, tu, tu, tu, tu, J3 10, iv 9, iv 2, iv 1, pv ct.p 0, iv 0, Value.bool false, iv ((40960 : Int) + (↑o : Int)), uv 0, iv (↑i : Int), J1 20, iv (↑j : Int), J3 22, tu, tu, Value.slice ta (10 : Nat) tc, iv w, iv 0, iv 5, Value.pointer (some (Addr.mk (blk ta) (offA ta + (5 : Nat)) none)), iv 9, iv 9, Value.bool false, Value.bool false, Value.bool false, Value.bool false, Value.bool false, Value.bool false, tu, tu, tu, Value.tuple #[pv ct.p 0, iv 0], iv 9, iv 2, Value.agg #[iv 9, iv 0, iv 2, iv 0, iv 0, Value.slice none (0 : Nat) (0 : Nat), Value.slice none (0 : Nat) (0 : Nat), Value.bool false], Value.slice la (32768 : Nat) (32768 : Nat), Value.tuple #[pv ct.p 0, iv 0], pv ct.p 0, iv 0, pv ct.p 0, Value.bool false, Value.bool false, iv 0, Value.bool false, Value.bool false, iv 9, Value.bool false, iv at0, iv (↑o : Int), iv ((40960 : Int) + (↑o : Int)), Value.bool false, tu, tu, tu, tu, tu, tu, tu, tu, tu, tu, tu, iv 9, Value.bool false, iv (↑i : Int), iv 1, Value.bool (decide ((↑i : Int) < (1 : Int))), J1 77, J1 78, J1 79, J1 80, J1 81, J1 82, J1 83, J1 84, J1 85, J1 86, J1 87, J1 88, J1 89, J1 90, J1 91, J1 92, J1 93, J1 94, J1 95, J1 96, J1 97, J1 98, J1 99, J1 100, J1 101, J1 102, J1 103, J1 104, J1 105, J1 106, J1 107, J1 108, J3 109, J3 110, J3 111, J3 112, J3 113, J3 114, J3 115, J3 116, J3 117, J3 118, J3 119, J3 120, J3 121, J3 122, J3 123, J3 124, J3 125, J3 126, J3 127, J3 128, J3 129, J3 130, J3 131, J3 132, J3 133, J3 134, J3 135, J3 136, J3 137, J3 138, J3 139, J3 140, J3 141, J3 142, J3 143, tu, tu, tu, tu, tu, tu, tu, tu, tu, tu, tu, tu, tu, tu, tu, tu, tu, tu, tu, tu, tu, tu, tu, tu, tu, tu, tu, tu, tu, tu, tu, tu, tu, tu, tu, tu, tu, tu, tu, tu, tu]) (L' := [CTP (0 : Nat) ct h rg0 R M, A, TyP te ta tc]) (by kernel_rfl) rfl ?_)
  by_cases hlt : j < 1
  · have hi0 : j = 0 := by omega
    (focus
      refine Xg.at_seq ?_
      refine Xg.at_seq ?_
      refine Xg.at_region ?_
      refine Xg.ops_op (by kernel_rfl) (Xg.opx_pure ((iv (↑j : Int))) rfl (fun _ => by kernel_rfl) ?_)
      refine Xg.ops_op (by kernel_rfl) (Xg.opx_pure ((iv 1)) rfl (fun _ => by kernel_rfl) ?_)
      refine Xg.ops_op (by kernel_rfl) (Xg.opx_pure (.bool (decide ((((↑j : Int)) : Int) < ((1 : Int))))) rfl (fun _ => by kernel_rfl) ?_)
      refine Xg.ops_nil ?_
      refine Xg.at_true (t := decide (((↑j : Int) < (1 : Int)))) (by kernel_rfl) (decide_eq_true (by omega)) ?_
      refine Xg.at_skip ?_
      refine Xg.at_seq ?_
      refine Xg.at_block ?_
      refine Xg.at_seq ?_
      refine Xg.at_seq ?_
      refine Xg.at_region ?_
      refine Xg.ops_op (by kernel_rfl) (Xg.opx_pure ((Value.bool false)) rfl (fun _ => by kernel_rfl) ?_)
      refine Xg.ops_op (by kernel_rfl) (Xg.opx_pure ((Value.bool false)) rfl (fun _ => by kernel_rfl) ?_)
      refine Xg.ops_skip (by kernel_rfl) ?_
      refine Xg.ops_skip (by kernel_rfl) ?_
      refine Xg.ops_op (by kernel_rfl) (Xg.opx_pure ((Value.bool false)) rfl (fun _ => by kernel_rfl) ?_)
      refine Xg.ops_nil ?_
      refine Xg.at_false (t := false) (by kernel_rfl) rfl ?_
      refine Xg.at_skip ?_
      refine Xg.at_seq ?_
      refine Xg.at_region ?_
      refine Xg.ops_op (by kernel_rfl) (Xg.opx_pure ((iv (↑j : Int))) rfl (fun _ => by kernel_rfl) ?_)
      refine Xg.ops_op (by kernel_rfl) (Xg.opx_int .i64 (IntKind.wrap .i64 (((↑j : Int) + (1 : Int)))) rfl (fun _ => by kernel_rfl) (Xg.wrap_i64_in (by omega)) ?_)
      refine Xg.ops_op (by kernel_rfl) (Xg.opx_int .u8 (IntKind.wrap .u8 (((↑j : Int) + (1 : Int)))) rfl (fun _ => by kernel_rfl) (Xg.wrap_u8_in (by omega)) ?_)
      refine Xg.ops_op (by kernel_rfl) (Xg.opx_pure ((uv ((↑j : Int) + (1 : Int)))) rfl (fun _ => by kernel_rfl) ?_)
      refine Xg.ops_nil ?_
      refine Xg.at_seq ?_
      refine Xg.at_seq ?_
      refine Xg.at_region ?_
      refine Xg.ops_op (by kernel_rfl) (Xg.opx_pure ((iv (↑j : Int))) rfl (fun _ => by kernel_rfl) ?_)
      refine Xg.ops_op (by kernel_rfl) (Xg.opx_pure ((Value.slice va nv vc)) rfl (fun _ => by kernel_rfl) ?_)
      refine Xg.ops_op (by kernel_rfl) (Xg.opx_pure ((iv (↑nv : Int))) rfl (fun _ => by kernel_rfl) ?_)
      refine Xg.ops_op (by kernel_rfl) (Xg.opx_pure (.bool (decide ((((↑j : Int)) : Int) < ((↑nv : Int))))) rfl (fun _ => by kernel_rfl) ?_)
      refine Xg.ops_nil ?_)
    (focus
      refine Xg.at_cut (α := (Int) × (Nat → Value)) (fun x9 => ((fun v => vjI V nv 0 = v) : (Int) → Prop) x9.1) (fun x9 => Xg.headT [iv w, iv cd, Value.slice va nv vc, iv at0, iv sh, tu, tu, tu, tu, tu, J3 10, iv 9, iv 2, iv 1, pv ct.p 0, iv 0, Value.bool false, iv ((40960 : Int) + (↑o : Int)), uv 0, iv (↑i : Int), J1 20, iv (↑j : Int), uv ((↑j : Int) + (1 : Int)), tu, tu, Value.slice ta (10 : Nat) tc, iv w, iv 0, iv 5, Value.pointer (some (Addr.mk (blk ta) (offA ta + (5 : Nat)) none)), iv 9, iv 9, Value.bool false, Value.bool false, Value.bool false, Value.bool false, Value.bool false, Value.bool false, tu, tu, tu, Value.tuple #[pv ct.p 0, iv 0], iv 9, iv 2, Value.agg #[iv 9, iv 0, iv 2, iv 0, iv 0, Value.slice none (0 : Nat) (0 : Nat), Value.slice none (0 : Nat) (0 : Nat), Value.bool false], Value.slice la (32768 : Nat) (32768 : Nat), Value.tuple #[pv ct.p 0, iv 0], pv ct.p 0, iv 0, pv ct.p 0, Value.bool false, Value.bool false, iv 0, Value.bool false, Value.bool false, iv 9, Value.bool false, iv at0, iv (↑o : Int), iv ((40960 : Int) + (↑o : Int)), Value.bool false, tu, tu, tu, tu, tu, tu, tu, tu, tu, tu, tu, iv 9, Value.bool false, iv (↑i : Int), iv 1, Value.bool (decide ((↑i : Int) < (1 : Int))), J1 77, J1 78, J1 79, J1 80, J1 81, J1 82, J1 83, J1 84, J1 85, J1 86, J1 87, J1 88, J1 89, J1 90, J1 91, J1 92, J1 93, J1 94, J1 95, J1 96, J1 97, J1 98, J1 99, J1 100, J1 101, J1 102, J1 103, J1 104, J1 105, J1 106, J1 107, J1 108, iv (↑j : Int), iv 1, Value.bool (decide ((↑j : Int) < (1 : Int))), J3 112, J3 113, Value.bool false, Value.bool false, tu, tu, Value.bool false, J3 119, J3 120, J3 121, J3 122, iv (↑j : Int), iv ((↑j : Int) + (1 : Int)), uv ((↑j : Int) + (1 : Int)), iv (↑j : Int), Value.slice va nv vc, iv (↑nv : Int), Value.bool (decide ((↑j : Int) < (↑nv : Int))), J3 130, J3 131, J3 132, J3 133, J3 134, J3 135, J3 136, J3 137, J3 138, J3 139, J3 140, J3 141, J3 142, J3 143, tu, tu, tu, tu, tu, tu, tu, tu, tu, tu, tu, tu, tu, tu, tu, tu, tu, tu, tu, tu, tu, tu, tu, tu, tu, tu, tu, tu, tu, tu, tu, tu, tu, tu, tu, tu, tu, tu, tu, tu, tu] [130, 131, 132, 133, 134] (((fun v => [(22, .int .u8 v)]) : (Int) → List (Nat × Go.Value)) x9.1) x9.2) (fun x9 => ((fun v => [CTP 0 ct h rg0 R M, A, TyP te ta tc]) : (Int) → List Go.Sl.HP) x9.1) (fun kk hk => ?_) ?_)
    · by_cases hiv : j < nv
      · (focus
          refine Xg.at_true (t := decide (((↑j : Int) < (↑nv : Int)))) (by kernel_rfl) (decide_eq_true (by omega)) ?_
          refine Xg.at_region ?_
          refine Xg.ops_op (by kernel_rfl) (Xg.opx_pure ((Value.slice va nv vc)) rfl (fun _ => by kernel_rfl) ?_)
          refine Xg.ops_op (by kernel_rfl) (Xg.opx_pure ((iv (↑j : Int))) rfl (fun _ => by kernel_rfl) ?_)
          refine Xg.ops_op (by kernel_rfl) (Xg.opx_rd 1 (.pointer (some (Addr.mk (Xg.blk va) (offA va + j) none))) rfl hV (by kernel_rfl) (Xg.run_ix_rd (elem := 3) (kd := .i64) (e := ((↑j : Int))) 1 j (offA va + j) (by kernel_rfl) (by kernel_rfl) (by kernel_rfl) (by kernel_rfl) rfl (by omega) (by simp only [List.length_map]; omega) (by omega)) ?_)
          refine Xg.ops_op (by kernel_rfl) (Xg.opx_rd 1 (iv (V.getD j (0 : Int))) rfl hV (by kernel_rfl) (Xg.run_load_rd (off0 := (offA va + j)) j (by kernel_rfl) (by omega) (Xg.get_ints (by omega)) (by kernel_rfl)) ?_)
          refine Xg.ops_op (by kernel_rfl) (Xg.opx_int .u8 (IntKind.wrap .u8 ((V.getD j (0 : Int)))) rfl (fun _ => by kernel_rfl) (Xg.wrap_u8_mod _) ?_)
          refine Xg.ops_op (by kernel_rfl) (Xg.opx_pure ((uv (V.getD j (0 : Int) % (256 : Int)))) rfl (fun _ => by kernel_rfl) ?_)
          refine Xg.ops_nil ?_)
        (focus
          refine Xg.at_keep [0, 1, 2] (by kernel_rfl) ?_
          refine Xg.At.same (by kernel_rfl) ?_ (hk (((V.getD j 0 % 256)), fun j9 => ([iv w, iv cd, Value.slice va nv vc, iv at0, iv sh, tu, tu, tu, tu, tu, J3 10, iv 9, iv 2, iv 1, pv ct.p 0, iv 0, Value.bool false, iv ((40960 : Int) + (↑o : Int)), uv 0, iv (↑i : Int), J1 20, iv (↑j : Int), uv (V.getD j (0 : Int) % (256 : Int)), tu, tu, Value.slice ta (10 : Nat) tc, iv w, iv 0, iv 5, Value.pointer (some (Addr.mk (blk ta) (offA ta + (5 : Nat)) none)), iv 9, iv 9, Value.bool false, Value.bool false, Value.bool false, Value.bool false, Value.bool false, Value.bool false, tu, tu, tu, Value.tuple #[pv ct.p 0, iv 0], iv 9, iv 2, Value.agg #[iv 9, iv 0, iv 2, iv 0, iv 0, Value.slice none (0 : Nat) (0 : Nat), Value.slice none (0 : Nat) (0 : Nat), Value.bool false], Value.slice la (32768 : Nat) (32768 : Nat), Value.tuple #[pv ct.p 0, iv 0], pv ct.p 0, iv 0, pv ct.p 0, Value.bool false, Value.bool false, iv 0, Value.bool false, Value.bool false, iv 9, Value.bool false, iv at0, iv (↑o : Int), iv ((40960 : Int) + (↑o : Int)), Value.bool false, tu, tu, tu, tu, tu, tu, tu, tu, tu, tu, tu, iv 9, Value.bool false, iv (↑i : Int), iv 1, Value.bool (decide ((↑i : Int) < (1 : Int))), J1 77, J1 78, J1 79, J1 80, J1 81, J1 82, J1 83, J1 84, J1 85, J1 86, J1 87, J1 88, J1 89, J1 90, J1 91, J1 92, J1 93, J1 94, J1 95, J1 96, J1 97, J1 98, J1 99, J1 100, J1 101, J1 102, J1 103, J1 104, J1 105, J1 106, J1 107, J1 108, iv (↑j : Int), iv 1, Value.bool (decide ((↑j : Int) < (1 : Int))), J3 112, J3 113, Value.bool false, Value.bool false, tu, tu, Value.bool false, J3 119, J3 120, J3 121, J3 122, iv (↑j : Int), iv ((↑j : Int) + (1 : Int)), uv ((↑j : Int) + (1 : Int)), iv (↑j : Int), Value.slice va nv vc, iv (↑nv : Int), Value.bool (decide ((↑j : Int) < (↑nv : Int))), Value.slice va nv vc, iv (↑j : Int), Value.pointer (some (Addr.mk (blk va) (offA va + j) none)), iv (V.getD j (0 : Int)), uv (V.getD j (0 : Int) % (256 : Int)), J3 135, J3 136, J3 137, J3 138, J3 139, J3 140, J3 141, J3 142, J3 143, tu, tu, tu, tu, tu, tu, tu, tu, tu, tu, tu, tu, tu, tu, tu, tu, tu, tu, tu, tu, tu, tu, tu, tu, tu, tu, tu, tu, tu, tu, tu, tu, tu, tu, tu, tu, tu, tu, tu, tu, tu] : List Value).getD j9 undef) ?_))
        · rfl
        · rw [hi0] at hiv ⊢; unfold vjI; rw [if_pos hiv]
      · (focus
          refine Xg.at_false (t := decide (((↑j : Int) < (↑nv : Int)))) (by kernel_rfl) (decide_eq_false (by omega)) ?_
          refine Xg.at_skip ?_)
        (focus
          refine Xg.at_keep [0, 1, 2] (by kernel_rfl) ?_
          refine Xg.At.same (by kernel_rfl) ?_ (hk ((((j : Int) + 1)), fun j9 => ([iv w, iv cd, Value.slice va nv vc, iv at0, iv sh, tu, tu, tu, tu, tu, J3 10, iv 9, iv 2, iv 1, pv ct.p 0, iv 0, Value.bool false, iv ((40960 : Int) + (↑o : Int)), uv 0, iv (↑i : Int), J1 20, iv (↑j : Int), uv ((↑j : Int) + (1 : Int)), tu, tu, Value.slice ta (10 : Nat) tc, iv w, iv 0, iv 5, Value.pointer (some (Addr.mk (blk ta) (offA ta + (5 : Nat)) none)), iv 9, iv 9, Value.bool false, Value.bool false, Value.bool false, Value.bool false, Value.bool false, Value.bool false, tu, tu, tu, Value.tuple #[pv ct.p 0, iv 0], iv 9, iv 2, Value.agg #[iv 9, iv 0, iv 2, iv 0, iv 0, Value.slice none (0 : Nat) (0 : Nat), Value.slice none (0 : Nat) (0 : Nat), Value.bool false], Value.slice la (32768 : Nat) (32768 : Nat), Value.tuple #[pv ct.p 0, iv 0], pv ct.p 0, iv 0, pv ct.p 0, Value.bool false, Value.bool false, iv 0, Value.bool false, Value.bool false, iv 9, Value.bool false, iv at0, iv (↑o : Int), iv ((40960 : Int) + (↑o : Int)), Value.bool false, tu, tu, tu, tu, tu, tu, tu, tu, tu, tu, tu, iv 9, Value.bool false, iv (↑i : Int), iv 1, Value.bool (decide ((↑i : Int) < (1 : Int))), J1 77, J1 78, J1 79, J1 80, J1 81, J1 82, J1 83, J1 84, J1 85, J1 86, J1 87, J1 88, J1 89, J1 90, J1 91, J1 92, J1 93, J1 94, J1 95, J1 96, J1 97, J1 98, J1 99, J1 100, J1 101, J1 102, J1 103, J1 104, J1 105, J1 106, J1 107, J1 108, iv (↑j : Int), iv 1, Value.bool (decide ((↑j : Int) < (1 : Int))), J3 112, J3 113, Value.bool false, Value.bool false, tu, tu, Value.bool false, J3 119, J3 120, J3 121, J3 122, iv (↑j : Int), iv ((↑j : Int) + (1 : Int)), uv ((↑j : Int) + (1 : Int)), iv (↑j : Int), Value.slice va nv vc, iv (↑nv : Int), Value.bool (decide ((↑j : Int) < (↑nv : Int))), J3 130, J3 131, J3 132, J3 133, J3 134, J3 135, J3 136, J3 137, J3 138, J3 139, J3 140, J3 141, J3 142, J3 143, tu, tu, tu, tu, tu, tu, tu, tu, tu, tu, tu, tu, tu, tu, tu, tu, tu, tu, tu, tu, tu, tu, tu, tu, tu, tu, tu, tu, tu, tu, tu, tu, tu, tu, tu, tu, tu, tu, tu, tu, tu] : List Value).getD j9 undef) ?_))
        · rfl
        · rw [hi0] at hiv ⊢; unfold vjI; rw [if_neg hiv]
    rintro ⟨v, J4⟩ hv
    dsimp only at hv
    subst hv
    (focus
      refine Xg.At.same (T' := [iv w, iv cd, Value.slice va nv vc, iv at0, iv sh, tu, tu, tu, tu, tu, J3 10, iv 9, iv 2, iv 1, pv ct.p 0, iv 0, Value.bool false, iv ((40960 : Int) + (↑o : Int)), uv 0, iv (↑i : Int), J1 20, iv (↑j : Int), uv (vjI V nv (0 : Nat)), tu, tu, Value.slice ta (10 : Nat) tc, iv w, iv 0, iv 5, Value.pointer (some (Addr.mk (blk ta) (offA ta + (5 : Nat)) none)), iv 9, iv 9, Value.bool false, Value.bool false, Value.bool false, Value.bool false, Value.bool false, Value.bool false, tu, tu, tu, Value.tuple #[pv ct.p 0, iv 0], iv 9, iv 2, Value.agg #[iv 9, iv 0, iv 2, iv 0, iv 0, Value.slice none (0 : Nat) (0 : Nat), Value.slice none (0 : Nat) (0 : Nat), Value.bool false], Value.slice la (32768 : Nat) (32768 : Nat), Value.tuple #[pv ct.p 0, iv 0], pv ct.p 0, iv 0, pv ct.p 0, Value.bool false, Value.bool false, iv 0, Value.bool false, Value.bool false, iv 9, Value.bool false, iv at0, iv (↑o : Int), iv ((40960 : Int) + (↑o : Int)), Value.bool false, tu, tu, tu, tu, tu, tu, tu, tu, tu, tu, tu, iv 9, Value.bool false, iv (↑i : Int), iv 1, Value.bool (decide ((↑i : Int) < (1 : Int))), J1 77, J1 78, J1 79, J1 80, J1 81, J1 82, J1 83, J1 84, J1 85, J1 86, J1 87, J1 88, J1 89, J1 90, J1 91, J1 92, J1 93, J1 94, J1 95, J1 96, J1 97, J1 98, J1 99, J1 100, J1 101, J1 102, J1 103, J1 104, J1 105, J1 106, J1 107, J1 108, iv (↑j : Int), iv 1, Value.bool (decide ((↑j : Int) < (1 : Int))), J3 112, J3 113, Value.bool false, Value.bool false, tu, tu, Value.bool false, J3 119, J3 120, J3 121, J3 122, iv (↑j : Int), iv ((↑j : Int) + (1 : Int)), uv ((↑j : Int) + (1 : Int)), iv (↑j : Int), Value.slice va nv vc, iv (↑nv : Int), Value.bool (decide ((↑j : Int) < (↑nv : Int))), J4 130, J4 131, J4 132, J4 133, J4 134, J3 135, J3 136, J3 137, J3 138, J3 139, J3 140, J3 141, J3 142, J3 143, tu, tu, tu, tu, tu, tu, tu, tu, tu, tu, tu, tu, tu, tu, tu, tu, tu, tu, tu, tu, tu, tu, tu, tu, tu, tu, tu, tu, tu, tu, tu, tu, tu, tu, tu, tu, tu, tu, tu, tu, tu]) (L' := [CTP (0 : Nat) ct h rg0 R M, A, TyP te ta tc]) (by kernel_rfl) rfl ?_)
    (focus
      refine Xg.at_seq ?_
      refine Xg.at_region ?_
      refine Xg.ops_op (by kernel_rfl) (Xg.opx_pure ((pv ct.p 0)) rfl (fun _ => by kernel_rfl) ?_)
      refine Xg.ops_op (by kernel_rfl) (Xg.opx_pure ((iv ((40960 : Int) + (↑o : Int)))) rfl (fun _ => by kernel_rfl) ?_)
      refine Xg.ops_op (by kernel_rfl) (Xg.opx_call1' [0] [CTP (0 : Nat) ct h rg0 R M, A, TyP te ta tc] (fun _ => by kernel_rfl) (@hrd ) (by kernel_rfl) (by kernel_rfl) (by kernel_rfl) ?_)
      refine Xg.ops_op (by kernel_rfl) (Xg.opx_pure ((uv (vjI V nv (0 : Nat)))) rfl (fun _ => by kernel_rfl) ?_)
      refine Xg.ops_op (by kernel_rfl) (Xg.opx_pure ((uv 0)) rfl (fun _ => by kernel_rfl) ?_)
      refine Xg.ops_op (by kernel_rfl) (Xg.opx_pure (.int .u8 (Xg.bclr .u8 ((vjI V nv (0 : Nat))) (((0 : Int))))) rfl (fun _ => by kernel_rfl) ?_)
      refine Xg.ops_op (by kernel_rfl) (Xg.opx_pure ((uv 0)) rfl (fun _ => by kernel_rfl) ?_)
      refine Xg.ops_op (by kernel_rfl) (Xg.opx_pure (.int .u8 (Xg.bor .u8 ((bclr IntKind.u8 (vjI V nv (0 : Nat)) (0 : Int))) (((0 : Int))))) rfl (fun _ => by kernel_rfl) ?_)
      refine Xg.ops_op (by kernel_rfl) (Xg.opx_pure (.bool (!decide (((bor IntKind.u8 (bclr IntKind.u8 (vjI V nv (0 : Nat)) (0 : Int)) (0 : Int)) : Int) = (bor IntKind.u8 (bclr IntKind.u8 (vjI V nv (0 : Nat)) (0 : Int)) (0 : Int))))) rfl (fun _ => by kernel_rfl) ?_)
      refine Xg.ops_nil ?_
      refine Xg.at_false (t := !decide ((bor IntKind.u8 (bclr IntKind.u8 (vjI V nv (0 : Nat)) (0 : Int)) (0 : Int) = bor IntKind.u8 (bclr IntKind.u8 (vjI V nv (0 : Nat)) (0 : Int)) (0 : Int)))) (by kernel_rfl) (by rw [decide_eq_true (by omega)]; rfl) ?_
      refine Xg.at_skip ?_
      refine Xg.at_inBlock ?_
      refine Xg.at_region ?_
      refine Xg.ops_op (by kernel_rfl) (Xg.opx_pure ((iv (↑j : Int))) rfl (fun _ => by kernel_rfl) ?_)
      refine Xg.ops_op (by kernel_rfl) (Xg.opx_int .i64 (IntKind.wrap .i64 (((↑j : Int) + (1 : Int)))) rfl (fun _ => by kernel_rfl) (Xg.wrap_i64_in (by omega)) ?_)
      refine Xg.ops_op (by kernel_rfl) (Xg.opx_pure ((iv ((↑j : Int) + (1 : Int)))) rfl (fun _ => by kernel_rfl) ?_)
      refine Xg.ops_nil ?_
      refine Xg.at_inLoop ?_)
    (focus
      refine Xg.at_keep [0, 1, 2] (by kernel_rfl) ?_
      refine Xs.same ?_ (fun J9 => ih (((j + 1)), J9) ?_ ?_) (by kernel_rfl))
    · rfl
    · exact hlt
    · show 1 - (j + 1) < 1 - j; omega
  · (focus
      refine Xg.at_seq ?_
      refine Xg.at_seq ?_
      refine Xg.at_region ?_
      refine Xg.ops_op (by kernel_rfl) (Xg.opx_pure ((iv (↑j : Int))) rfl (fun _ => by kernel_rfl) ?_)
      refine Xg.ops_op (by kernel_rfl) (Xg.opx_pure ((iv 1)) rfl (fun _ => by kernel_rfl) ?_)
      refine Xg.ops_op (by kernel_rfl) (Xg.opx_pure (.bool (decide ((((↑j : Int)) : Int) < ((1 : Int))))) rfl (fun _ => by kernel_rfl) ?_)
      refine Xg.ops_nil ?_
      refine Xg.at_false (t := decide (((↑j : Int) < (1 : Int)))) (by kernel_rfl) (decide_eq_false (by omega)) ?_
      refine Xg.at_exit rfl ?_
      refine Xg.at_seq ?_
      refine Xg.at_seq ?_
      refine Xg.at_region ?_
      refine Xg.ops_op (by kernel_rfl) (Xg.opx_pure ((Value.bool false)) rfl (fun _ => by kernel_rfl) ?_)
      refine Xg.ops_op (by kernel_rfl) (Xg.opx_pure (.bool true) rfl (fun _ => by kernel_rfl) ?_)
      refine Xg.ops_nil ?_
      refine Xg.at_true (t := true) (by kernel_rfl) rfl ?_
      refine Xg.at_seq ?_
      refine Xg.at_region ?_
      refine Xg.ops_op (by kernel_rfl) (Xg.opx_pure ((Value.bool true)) rfl (fun _ => by kernel_rfl) ?_)
      refine Xg.ops_nil ?_
      refine Xg.at_ret_ps (v := (Value.bool true)) [1, 2] [A, TyP te ta tc] Go.Proofs.Tryd.func5 (fun _ => by kernel_rfl) (by kernel_rfl) (by kernel_rfl) ?_
      exact ⟨by kernel_rfl, by kernel_rfl⟩)
end Go.Proofs.YthjhkondmobaeaaDoor

/- cart's law: what is written to the RAM is there, of any type; numbers in an argument beside the laid variable. -/
namespace Go.Proofs.YthjhkondmobaeaaDoor
open Go.ChangeShapes Go.WideShapes Go.ChangeAt Go.RowKit Go.Sl Go.Xg
set_option linter.unusedVariables false
set_option linter.unusedSimpArgs false

theorem ram_d (te : TypeId) (A : HP) (ta : Option Addr) (tc : Nat) (hT : Reads A 1 (.slice ta 10 tc) 10 (tyL.map (Value.int .i64))) (w : Int) (hw : iok w) (cd : Int) (hcd : iok cd) (va : Option Addr) (nv vc : Nat) (V : List Int) (hVl : V.length = nv) (hnv : nv ≤ maxLen) (hV : Reads A 1 (.slice va nv vc) nv (V.map (Value.int .i64))) (hVo : ∀ i, i < nv → iok (V.getD i 0)) (at0 : Int) (hat : iok at0) (sh : Int) (hsh : iok sh) :
    Does Tryd.prog 5 [.int .i64 w, .int .i64 cd, .slice va nv vc, .int .i64 at0, .int .i64 sh] [A, TyP te ta tc] (Ret (.bool true) [A, TyP te ta tc]) := by
  have h := pick_lt w 5 (by decide)
  have h2 := pick_lt cd 2 (by decide)
  rcases (show pickI w 5 = 0 ∨ pickI w 5 = 1 ∨ pickI w 5 = 2 ∨ pickI w 5 = 3 ∨ pickI w 5 = 4 by omega) with e | e | e | e | e
  · exact ram_flat te A ta tc tyL rfl hT w cd at0 sh hw hcd hat hsh va nv vc V hVl hnv hV hVo e rfl
  · rcases (show pickI cd 2 = 0 ∨ pickI cd 2 = 1 by omega) with c | c
    · exact ram_any te A ta tc tyL rfl hT w cd at0 sh hw hcd hat hsh va nv vc V hVl hnv hV hVo 1 3 2 1 8192 1 ⟨1, 128, [2, 3], true⟩ e (by decide) rfl (by decide) (Or.inr (Or.inr ⟨Or.inl rfl, c, rfl, rfl, by decide, rfl⟩)) rfl (by decide) (by decide) (Or.inl rfl) rfl (by decide)
    · exact ram_any te A ta tc tyL rfl hT w cd at0 sh hw hcd hat hsh va nv vc V hVl hnv hV hVo 1 3 3 1 32768 4 ⟨1, 128, [2, 3], true⟩ e (by decide) rfl (by decide) (Or.inr (Or.inl ⟨Or.inl rfl, c, rfl, rfl, by decide, rfl⟩)) rfl (by decide) (by decide) (Or.inl rfl) rfl (by decide)
  · exact ram_any te A ta tc tyL rfl hT w cd at0 sh hw hcd hat hsh va nv vc V hVl hnv hV hVo 2 6 0 2 512 1 ⟨2, 16, [0], true⟩ e (by decide) rfl (by decide) (Or.inl ⟨rfl, rfl, rfl, rfl, rfl⟩) rfl (by decide) (by decide) (Or.inr (Or.inl rfl)) rfl (by decide)
  · rcases (show pickI cd 2 = 0 ∨ pickI cd 2 = 1 by omega) with c | c
    · exact ram_any te A ta tc tyL rfl hT w cd at0 sh hw hcd hat hsh va nv vc V hVl hnv hV hVo 3 19 2 3 8192 1 ⟨3, 128, [2, 3], true⟩ e (by decide) rfl (by decide) (Or.inr (Or.inr ⟨Or.inr (Or.inl rfl), c, rfl, rfl, by decide, rfl⟩)) rfl (by decide) (by decide) (Or.inr (Or.inr (Or.inl rfl))) rfl (by decide)
    · exact ram_any te A ta tc tyL rfl hT w cd at0 sh hw hcd hat hsh va nv vc V hVl hnv hV hVo 3 19 3 3 32768 4 ⟨3, 128, [2, 3], true⟩ e (by decide) rfl (by decide) (Or.inr (Or.inl ⟨Or.inr (Or.inl rfl), c, rfl, rfl, by decide, rfl⟩)) rfl (by decide) (by decide) (Or.inr (Or.inr (Or.inl rfl))) rfl (by decide)
  · rcases (show pickI cd 2 = 0 ∨ pickI cd 2 = 1 by omega) with c | c
    · exact ram_any te A ta tc tyL rfl hT w cd at0 sh hw hcd hat hsh va nv vc V hVl hnv hV hVo 4 27 2 5 8192 1 ⟨5, 128, [2, 3, 4, 5], true⟩ e (by decide) rfl (by decide) (Or.inr (Or.inr ⟨Or.inr (Or.inr rfl), c, rfl, rfl, by decide, rfl⟩)) rfl (by decide) (by decide) (Or.inr (Or.inr (Or.inr rfl))) rfl (by decide)
    · exact ram_any te A ta tc tyL rfl hT w cd at0 sh hw hcd hat hsh va nv vc V hVl hnv hV hVo 4 27 3 5 32768 4 ⟨5, 128, [2, 3, 4, 5], true⟩ e (by decide) rfl (by decide) (Or.inr (Or.inl ⟨Or.inr (Or.inr rfl), c, rfl, rfl, by decide, rfl⟩)) rfl (by decide) (by decide) (Or.inr (Or.inr (Or.inr rfl))) rfl (by decide)
/-- No number stands in the variable's block. -/
theorem typ_no {W : World} {te : TypeId} {ta : Option Addr} {tc : Nat} (hb : W.heap[0]? = some (.cells #[.slice ta 10 tc] te)) {kd : IntKind} {ad : Addr} {j : Nat} {i : Int} (h : W.cell? (ad.add j) = some (.int kd i)) : ad.block ≠ 0 := by
  intro e0
  generalize hx : ad.add j = x at h
  have hbx : x.block = 0 := by rw [← hx, bl_add]; exact e0
  obtain ⟨b, off, pth⟩ := x
  simp only at hbx
  subst hbx
  unfold World.cell? at h
  simp only [hb] at h
  match off, h with
  | 0, h => simp at h
  | n + 1, h => simp at h
theorem ints_arg {H : Type} {enc : TypeId × Value → H} {W : World} {te : TypeId} {ta : Option Addr} {tc : Nat} (hb : W.heap[0]? = some (.cells #[.slice ta 10 tc] te)) {a : Option Addr} {n c : Nat} {d : DataW H} {ps : List MemPlace}
    (h : DataW.Trod enc Tryd.prog W 0 (fun _ => true) true 22 (.slice a n c) d ps) :
    ∃ l : List Int, l.length = n ∧ n ≤ maxLen ∧ Reads (oldBut 0 W) 1 (.slice a n c) n (l.map (Value.int .i64)) ∧ ∀ i, i < n → iok (l.getD i 0) := by
  obtain ⟨l, hl, hm, hw, hc⟩ := open_ints_rd Tryd.underlying22 Tryd.underlying3 (by kernel_rfl) h
  refine ⟨l, hl, hm, reads_but (by simp [hl]) fun j u hu => ?_, fun i hi => ?_⟩
  · obtain ⟨ad, h1, h2⟩ := hc j u hu
    rw [List.getElem?_map, Option.map_eq_some_iff] at hu
    obtain ⟨q, _, rfl⟩ := hu
    exact ⟨ad, h1, typ_no hb h2, h2⟩
  · have : l.getD i 0 ∈ l := by simp [List.getD, show i < l.length by omega]
    exact bounds_i64 (hw _ this)
end Go.Proofs.YthjhkondmobaeaaDoor
