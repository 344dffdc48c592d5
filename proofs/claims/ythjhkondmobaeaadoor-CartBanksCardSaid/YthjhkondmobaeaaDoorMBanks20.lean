import Derived.Test.YthjhkondmobaeaaDoorMBanks19
import Derived.Test.YthjhkondmobaeaaDoorRows
import Derived.ProofKit
import Derived.LaidMore
import Derived.OpenShut
import Derived.Stop.Joined
/- cart's laws: what the laid variable gives. -/
namespace Go.Proofs.YthjhkondmobaeaaDoor
open Go.ChangeShapes Go.WideShapes Go.ChangeAt Go.RowKit Go.Sl Go.Xg
set_option maxRecDepth 100000
set_option linter.unusedVariables false
set_option linter.unusedSimpArgs false

theorem ownP : ownKnob Tryd.prog.godebug = none := by kernel_rfl
theorem gTypes : Tryd.prog.globalNamed "arcade/arcadelaw4.types" = some 0 := by kernel_rfl
theorem tTypes : (Tryd.prog.globals[0]?).map (·.type) = some 22 := by kernel_rfl
abbrev laidP {H : Type} : List (String × DataW H) := [("arcade/arcadelaw4.types", Rows.laid_arcade_arcadelaw4_types)]
theorem door_metP (os : Os) (args : Array Value) : laidMetH Tryd.prog laidP ((World.doorLaid Tryd.prog 400 os).forCall (fun _ _ => 0) ⟨#[], args, []⟩).memory :=
  laidMetH_of_parts3 (fuel := 8) (laidMet_of_run' 8 (by kernel_rfl) (by kernel_rfl)) (by kernel_rfl) (by kernel_rfl)
/-- The types, as the text lays them. -/
def tyL : List Int := [0, 1, 5, 17, 25, 9, 3, 6, 19, 27]
theorem lits_nil {H : Type} {xs : List Int} (h : ([] : List (DataW H)) = ChangeShapes.lits .i64 xs) : xs = [] := by
  cases xs with
  | nil => rfl
  | cons x l => cases h
theorem lits_inj {H : Type} : ∀ {xs ys : List Int}, (ChangeShapes.lits .i64 xs : List (DataW H)) = ChangeShapes.lits .i64 ys → xs = ys
  | [], [], _ => rfl
  | [], _ :: _, h => by cases h
  | _ :: _, [], h => by cases h
  | x :: xs, y :: ys, h => by
    simp only [ChangeShapes.lits, List.map_cons, List.cons.injEq, DataW.lit.injEq, Lit.int.injEq] at h
    rw [h.1.2, lits_inj h.2]
/-- What the condition gives: the variable's block, and the numbers behind it. -/
theorem of_laidP {W : World} (h : laidMetH Tryd.prog laidP W) : ∃ te ta tc, W.heap[0]? = some (.cells #[.slice ta 10 tc] te) ∧ ∃ a, ta = some a ∧ ∀ i, i < 10 → W.cell? (a.add i) = some (.int .i64 (tyL.getD i 0)) := by
  rw [MakeChecks.laidMetH_plain _ _ _ (by kernel_rfl)] at h
  obtain ⟨ps, ⟨g0, t0, cs0, f0, p0, q0, hg0, ht0, hv0, hd0, rfl, hps⟩, _, hh⟩ := h
  obtain rfl := Option.some.inj (gTypes.symm.trans hg0)
  obtain rfl := Option.some.inj (tTypes.symm.trans ht0)
  rcases ChangeShapes.open_ints Tryd.underlying22 Tryd.underlying3 (by kernel_rfl) hd0 with ⟨_, hx⟩ | ⟨a, n, c, zs, hcs, _, hnc, _, hz, hx, hcell, _⟩
  · cases congrArg Prod.fst hx
  have hx1 := congrArg Prod.fst hx
  simp only [Rows.laid_arcade_arcadelaw4_types, DataW.slice.injEq] at hx1
  have h1 : zs.take n = tyL := (lits_inj (xs := tyL) hx1.1).symm
  have h2 : zs.drop n = [] := lits_nil hx1.2
  have hzs : zs = tyL := by rw [← List.take_append_drop n zs, h1, h2, List.append_nil]
  have hl : zs.length = 10 := by rw [hzs]; rfl
  have hn1 : 10 ≤ n := by
    have := congrArg List.length h1
    rw [List.length_take, hl] at this
    have e : tyL.length = 10 := rfl
    omega
  have hn : n = 10 := by
    split at hz <;> omega
  subst hn
  have e : cs0 = #[.slice (some a) 10 c] := by
    obtain ⟨l⟩ := cs0
    have : l = [.slice (some a) 10 c] := hcs
    rw [this]
  have hb : ∃ c t, W.heap[0]? = some (.cells c t (0, 0)) := (hh 0 0 (by rw [hps, e]; simp [MemPlace.row])).1
  obtain ⟨c2, t, hb⟩ := hb
  have hv : W.var? Tryd.prog "arcade/arcadelaw4.types" = some c2 := by simp [World.var?, gTypes, hb]
  rw [hv] at hv0
  obtain rfl := Option.some.inj hv0
  refine ⟨t, some a, c, by rw [hb, e], a, rfl, fun i hi => ?_⟩
  rw [hcell i (by omega), hzs]
/-- The numbers, read. -/
theorem reads_types {W : World} {te : TypeId} {ta : Option Addr} {tc : Nat} (hb : W.heap[0]? = some (.cells #[.slice ta 10 tc] te)) (h : ∃ a, ta = some a ∧ ∀ i, i < 10 → W.cell? (a.add i) = some (.int .i64 (tyL.getD i 0))) : Reads (oldBut 0 W) 1 (.slice ta 10 tc) 10 (tyL.map (Value.int .i64)) := by
  obtain ⟨a, rfl, h⟩ := h
  refine reads_but rfl fun j u hu => ⟨a, rfl, ?_, ?_⟩
  · have hj : j < 10 := by
      have := (List.getElem?_eq_some_iff.1 hu).1
      simpa [tyL] using this
    have hc := h j hj
    intro e0
    generalize hx : a.add j = x at hc
    have hbx : x.block = 0 := by rw [← hx, bl_add]; exact e0
    obtain ⟨b, off, pth⟩ := x
    simp only at hbx
    subst hbx
    unfold World.cell? at hc
    simp only [hb] at hc
    match off, hc with
    | 0, hc => simp at hc
    | n + 1, hc => simp at hc
  · have hj : j < 10 := by
      have := (List.getElem?_eq_some_iff.1 hu).1
      simpa [tyL] using this
    rw [h j hj, ← hu, List.getElem?_map]
    rw [List.getD_eq_getElem?_getD, List.getElem?_eq_getElem (show j < tyL.length from hj)]
    rfl
end Go.Proofs.YthjhkondmobaeaaDoor

/- cart's law: each bank is seen. -/
namespace Go.Proofs.YthjhkondmobaeaaDoor
open Go.Sl Go.Xg
set_option linter.unusedVariables false
set_option linter.unusedSimpArgs false
set_option maxHeartbeats 4000000
set_option maxRecDepth 100000

theorem banks_0 (te : TypeId) (A : HP) (ta : Option Addr) (tc : Nat) (Tl : List Int) (hTl : Tl.length = 10) (hT : Reads A 1 (.slice ta 10 tc) 10 (Tl.map (Value.int .i64))) (w cd sd bk at0 : Int) (hw : iok w) (hcd : iok cd) (hsd : iok sd) (hbk : iok bk) (hat : iok at0) (hq : pickI w 5 = 0) (hTq : Tl.getD 0 0 = 0) :
    Does Tryd.prog 4 [.int .i64 w, .int .i64 cd, .int .i64 sd, .int .i64 bk, .int .i64 at0] [A, TyP te ta tc] (Ret (.bool true) [A, TyP te ta tc]) := by
  have hpw := pick_d w 5 hw (by decide)
  rw [hq] at hpw
  have hpc := pick_d cd 7 hcd (by decide)
  have hlc := pick_lt cd 7 (by decide)
  have hpc4 := pick_d cd 4 hcd (by decide)
  have hlc4 := pick_lt cd 4 (by decide)
  have hpa := pick_d at0 16384 hat (by decide)
  have hla := pick_lt at0 16384 (by decide)
  have hp8 := pick_d at0 8192 hat (by decide)
  have hl8 := pick_lt at0 8192 (by decide)
  have hp2 := pick_d at0 256 hat (by decide)
  have hl2 := pick_lt at0 256 (by decide)
  have hp4 := pick_d at0 4096 hat (by decide)
  have hl4 := pick_lt at0 4096 (by decide)
  have hps := pick_d sd 8192 hsd (by decide)
  have hls := pick_lt sd 8192 (by decide)
  have hps1 := pick_d sd 100 hsd (by decide)
  have hls1 := pick_lt sd 100 (by decide)
  obtain ⟨i, hi⟩ : ∃ i : Nat, pickI at0 16384 = (i : Int) := ⟨(pickI at0 16384).toNat, by omega⟩
  rw [hi] at hpa hla
  have hpb := pick_d bk 2 hbk (by decide)
  have hlb := pick_lt bk 2 (by decide)
  have hr0 := rom_own A 0 0 0 sd (by decide) (by decide) (by decide) hsd 32768 (by decide)
  (focus
    refine Xg.spec_of Go.Proofs.Tryd.func4 rfl Go.Proofs.Tryd.ntmps4 fun g F => ?_)
  (focus
    refine Xg.at_seq ?_
    refine Xg.at_region ?_
    refine Xg.ops_op (by kernel_rfl) (Xg.opx_pure ((Value.bool false)) rfl (fun _ => by kernel_rfl) ?_)
    refine Xg.ops_nil ?_
    refine Xg.at_seq ?_
    refine Xg.at_draw [2] [(0, [0, 1, 2], Xg.CellIs (((0 : Nat))) (((0 : Nat))) ((Value.slice ta (10 : Nat) tc))), (3, [0, 1, 2, 3], (RdIs (1 : Nat) (Value.slice ta (10 : Nat) tc) (10 : Nat) (List.map (Value.int IntKind.i64) Tl))), (4, [0, 1, 2, 3, 4], (RdIs (1 : Nat) (Value.slice ta (10 : Nat) tc) (10 : Nat) (List.map (Value.int IntKind.i64) Tl)))] (by kernel_rfl) ?_
    refine Xg.any_reads (Value.slice ta (10 : Nat) tc) 0 0 (by kernel_rfl) rfl (by kernel_rfl) (by kernel_rfl) (by kernel_rfl) (by kernel_rfl) rfl rfl (by kernel_rfl) (Xg.cell_now (b := ((0 : Nat))) (off := ((0 : Nat))) 1 rfl (by kernel_rfl)) (fun _ h => Xg.run_load (by kernel_rfl) (by kernel_rfl) h) ?_
    refine Xg.any_pure ((iv w)) 1 (by kernel_rfl) rfl (by kernel_rfl) (by kernel_rfl) (by kernel_rfl) (by kernel_rfl) rfl (fun _ => by kernel_rfl) ?_
    refine Xg.any_each [2] (by kernel_rfl) rfl ⟨?_, trivial⟩
    refine Xg.comes_act rfl (by kernel_rfl) (by kernel_rfl) (Xg.opx_call1' [] [A, TyP te ta tc] (fun _ => by kernel_rfl) (@hpw ) (by kernel_rfl) (by kernel_rfl) (by kernel_rfl) ?_)
    refine Xg.acts (Xg.owes_cell 1 rfl (by kernel_rfl) (Xg.owes_rd 0 hT (by kernel_rfl) (Xg.owes_rd 0 hT (by kernel_rfl) Xg.owes_nil))) ?_
    refine Xg.any_reads (.pointer (some (Addr.mk (Xg.blk ta) (offA ta + (0 : Nat)) none))) 3 1 (by kernel_rfl) rfl (by kernel_rfl) (by kernel_rfl) (by kernel_rfl) (by kernel_rfl) rfl rfl (by kernel_rfl) (Xg.rd_now 0 hT (by kernel_rfl)) (Xg.run_ix_rd (elem := 3) (kd := .i64) (e := ((0 : Int))) 1 ((0 : Nat)) (offA ta + (0 : Nat)) (by kernel_rfl) (by kernel_rfl) (by kernel_rfl) (by kernel_rfl) rfl (by omega) (by simp only [List.length_map]; omega) (by omega)) ?_
    refine Xg.any_reads (iv (Tl.getD (0 : Nat) (0 : Int))) 4 2 (by kernel_rfl) rfl (by kernel_rfl) (by kernel_rfl) (by kernel_rfl) (by kernel_rfl) rfl rfl (by kernel_rfl) (Xg.rd_now 0 hT (by kernel_rfl)) (Xg.run_load_rd (off0 := (offA ta)) ((0 : Nat)) (by kernel_rfl) (by omega) (Xg.get_ints (by omega)) (by kernel_rfl)) ?_
    refine Xg.any_pure ((iv (Tl.getD (0 : Nat) (0 : Int)))) 5 (by kernel_rfl) rfl (by kernel_rfl) (by kernel_rfl) (by kernel_rfl) (by kernel_rfl) rfl (fun _ => by kernel_rfl) ?_
    refine Xg.any_nil (by kernel_rfl) ?_
    refine Xg.at_seq ?_)
  rw [hTq]
  (focus
    refine Xg.at_region ?_
    refine Xg.ops_op (by kernel_rfl) (Xg.opx_pure ((iv cd)) rfl (fun _ => by kernel_rfl) ?_)
    refine Xg.ops_op (by kernel_rfl) (Xg.opx_call1' [] [A, TyP te ta tc] (fun _ => by kernel_rfl) (@hpc ) (by kernel_rfl) (by kernel_rfl) (by kernel_rfl) ?_)
    refine Xg.ops_op (by kernel_rfl) (Xg.opx_pure ((iv (pickI cd (7 : Int)))) rfl (fun _ => by kernel_rfl) ?_)
    refine Xg.ops_nil ?_
    refine Xg.at_seq ?_
    refine Xg.at_seq ?_
    refine Xg.at_region ?_
    refine Xg.ops_op (by kernel_rfl) (Xg.opx_pure ((iv 0)) rfl (fun _ => by kernel_rfl) ?_)
    refine Xg.ops_nil ?_
    refine Xg.at_block ?_
    refine Xg.at_seq ?_
    refine Xg.at_region ?_
    refine Xg.ops_op (by kernel_rfl) (Xg.opx_pure ((Value.bool true)) rfl (fun _ => by kernel_rfl) ?_)
    refine Xg.ops_op (by kernel_rfl) (Xg.opx_pure ((Value.bool true)) rfl (fun _ => by kernel_rfl) ?_)
    refine Xg.ops_nil ?_
    refine Xg.at_true (t := true) (by kernel_rfl) rfl ?_
    refine Xg.at_region ?_
    refine Xg.ops_op (by kernel_rfl) (Xg.opx_pure ((iv 0)) rfl (fun _ => by kernel_rfl) ?_)
    refine Xg.ops_nil ?_
    refine Xg.at_inBlock ?_
    refine Xg.at_seq ?_
    refine Xg.at_region ?_
    refine Xg.ops_op (by kernel_rfl) (Xg.opx_pure ((iv 0)) rfl (fun _ => by kernel_rfl) ?_)
    refine Xg.ops_op (by kernel_rfl) (Xg.opx_pure ((iv 0)) rfl (fun _ => by kernel_rfl) ?_)
    refine Xg.ops_op (by kernel_rfl) (Xg.opx_pure ((iv sd)) rfl (fun _ => by kernel_rfl) ?_)
    refine Xg.ops_op (by kernel_rfl) (Xg.opx_pure ((Value.agg #[iv 0, iv 0, iv 0, iv sd, iv 0, Value.slice none (0 : Nat) (0 : Nat), Value.slice none (0 : Nat) (0 : Nat), Value.bool false])) rfl (fun _ => by kernel_rfl) ?_)
    refine Xg.ops_op (by kernel_rfl) (Xg.opx_new 8 [iv 0, iv 0, iv 0, iv 0, iv 0, Value.slice none (0 : Nat) (0 : Nat), Value.slice none (0 : Nat) (0 : Nat), Value.bool false] (by kernel_rfl) (by kernel_rfl) fun xb1 => ?_)
    refine Xg.ops_op (by kernel_rfl) (Xg.opx_storen 8 (off := 0) 0 [iv 0, iv 0, iv 0, iv sd, iv 0, Value.slice none (0 : Nat) (0 : Nat), Value.slice none (0 : Nat) (0 : Nat), Value.bool false] (by kernel_rfl) rfl (by kernel_rfl) (by kernel_rfl) rfl (by kernel_rfl) (Nat.le_of_ble_eq_true (by kernel_rfl)) ?_)
    refine Xg.ops_nil ?_
    refine Xg.at_seq ?_
    refine Xg.at_region ?_
    refine Xg.ops_op (by kernel_rfl) (Xg.opx_loadn (off := 0) 8 0 [iv 0, iv 0, iv 0, iv sd, iv 0, Value.slice none (0 : Nat) (0 : Nat), Value.slice none (0 : Nat) (0 : Nat), Value.bool false] (by kernel_rfl) rfl (by kernel_rfl) rfl (Xg.cells_at (by kernel_rfl)) (by kernel_rfl) ?_)
    refine Xg.ops_op (by kernel_rfl) (Xg.opx_callE' [1] (fun xx1 => [bts xx1.fst (32768 : Nat) (32768 : Nat) xx1.snd, A, row xb1 (26 : Nat) [iv 0, iv 0, iv 0, iv sd, iv 0, Value.slice none (0 : Nat) (0 : Nat), Value.slice none (0 : Nat) (0 : Nat), Value.bool false], TyP te ta tc]) (fun _ => by kernel_rfl) (@hr0 ) (by kernel_rfl) (by kernel_rfl) (by kernel_rfl) fun xx1 xh1 => ?_)
    try dsimp only at xh1
    refine Xg.ops_op (by kernel_rfl) (Xg.opx_pure ((Value.slice xx1.fst (32768 : Nat) (32768 : Nat))) rfl (fun _ => by kernel_rfl) ?_)
    refine Xg.ops_nil ?_
    refine Xg.at_seq ?_
    refine Xg.at_region ?_
    refine Xg.ops_op (by kernel_rfl) (Xg.opx_pure ((Value.slice xx1.fst (32768 : Nat) (32768 : Nat))) rfl (fun _ => by kernel_rfl) ?_))
  refine Xg.ops_some 0 rfl (by omega) fun hss1 hss2 => ?_
  have hRl := xh1.l
  have hck := chk_box (k := ⟨0, 2, [0], false⟩) xh1 (by decide) ⟨by omega, by omega⟩ (by decide) (by rfl) (by decide) (by decide) (by decide)
  obtain ⟨h, hh⟩ : ∃ h, hdX 0 0 0 sd ⟨0, 2, [0], false⟩ = h := ⟨_, rfl⟩
  have hmp : h.mp = 0 := by rw [← hh]; rfl
  have hbk2 : h.bk = bnk 0 := by rw [← hh]; rfl
  have hrm : h.rm = ((0 : Nat) : Int) := by rw [← hh]; rfl
  rw [hh] at hck
  have hnw := new0_d (bts xx1.1 32768 32768 xx1.2) xx1.1 32768 32768 xx1.2 h 0 xh1.l (Nat.le_refl _) (by omega) hss1 xh1.b Xg.reads_own hck (by omega) hmp hrm (by decide)
  have hrok : (⟨0, 1, 0, 0, 0⟩ : Rg).Ok := ⟨by decide, by decide, by decide, by decide, by decide⟩
  have hlow : lowB 0 (⟨0, 1, 0, 0, 0⟩ : Rg) = 0 := rfl
  have hhigh : highB 0 (⟨0, 1, 0, 0, 0⟩ : Rg) = ((1 : Nat) : Int) := rfl
  (focus
    refine Xg.ops_op (by kernel_rfl) (Xg.opx_callE' [0] (fun xx2 => [CR xx2.fst h xx2.snd.snd.fst (32768 : Nat) xx2.snd.snd.snd.fst xx2.snd.snd.snd.snd (0 : Nat) (0 : Nat) (V0 xx2.snd.fst), bts xx2.snd.snd.fst (32768 : Nat) xx2.snd.snd.snd.fst xx1.snd, bts xx2.snd.snd.snd.snd (0 : Nat) (0 : Nat) (List.replicate (0 : Nat) (0 : Int)), bts xx1.fst (32768 : Nat) (32768 : Nat) xx1.snd, A, row xb1 (26 : Nat) [iv 0, iv 0, iv 0, iv sd, iv 0, Value.slice none (0 : Nat) (0 : Nat), Value.slice none (0 : Nat) (0 : Nat), Value.bool false], TyP te ta tc]) (fun _ => by kernel_rfl) (@hnw ) (by kernel_rfl) (by kernel_rfl) (by kernel_rfl) fun xx2 xh2 => ?_)
    try dsimp only at xh2
    refine Xg.ops_op (by kernel_rfl) (Xg.opx_pure ((Value.tuple #[pv xx2.fst 0, iv 0])) rfl (fun _ => by kernel_rfl) ?_)
    refine Xg.ops_op (by kernel_rfl) (Xg.opx_pure ((pv xx2.fst 0)) rfl (fun _ => by kernel_rfl) ?_)
    refine Xg.ops_op (by kernel_rfl) (Xg.opx_pure ((iv 0)) rfl (fun _ => by kernel_rfl) ?_)
    refine Xg.ops_op (by kernel_rfl) (Xg.opx_pure ((pv xx2.fst 0)) rfl (fun _ => by kernel_rfl) ?_)
    refine Xg.ops_op (by kernel_rfl) (Xg.opx_pure ((iv 0)) rfl (fun _ => by kernel_rfl) ?_)
    refine Xg.ops_nil ?_
    refine Xg.at_seq ?_
    refine Xg.at_seq ?_
    refine Xg.at_region ?_
    refine Xg.ops_op (by kernel_rfl) (Xg.opx_pure ((pv xx2.fst 0)) rfl (fun _ => by kernel_rfl) ?_)
    refine Xg.ops_op (by kernel_rfl) (Xg.opx_pure ((Value.bool false)) rfl (fun _ => by kernel_rfl) ?_)
    refine Xg.ops_op (by kernel_rfl) (Xg.opx_pure ((Value.bool false)) rfl (fun _ => by kernel_rfl) ?_)
    refine Xg.ops_op (by kernel_rfl) (Xg.opx_pure ((iv 0)) rfl (fun _ => by kernel_rfl) ?_)
    refine Xg.ops_op (by kernel_rfl) (Xg.opx_pure ((Value.bool false)) rfl (fun _ => by kernel_rfl) ?_)
    refine Xg.ops_op (by kernel_rfl) (Xg.opx_pure ((Value.bool false)) rfl (fun _ => by kernel_rfl) ?_)
    refine Xg.ops_nil ?_
    refine Xg.at_false (t := false) (by kernel_rfl) rfl ?_
    refine Xg.at_skip ?_
    refine Xg.at_seq ?_
    refine Xg.at_region ?_
    refine Xg.ops_op (by kernel_rfl) (Xg.opx_pure ((iv 0)) rfl (fun _ => by kernel_rfl) ?_)
    refine Xg.ops_op (by kernel_rfl) (Xg.opx_pure ((iv 2)) rfl (fun _ => by kernel_rfl) ?_)
    refine Xg.ops_op (by kernel_rfl) (Xg.opx_pure ((iv 2)) rfl (fun _ => by kernel_rfl) ?_)
    refine Xg.ops_nil ?_
    refine Xg.at_seq ?_
    refine Xg.at_region ?_
    refine Xg.ops_op (by kernel_rfl) (Xg.opx_pure ((iv bk)) rfl (fun _ => by kernel_rfl) ?_)
    refine Xg.ops_op (by kernel_rfl) (Xg.opx_pure ((iv 2)) rfl (fun _ => by kernel_rfl) ?_)
    refine Xg.ops_op (by kernel_rfl) (Xg.opx_call1' [] [CR xx2.fst h xx2.snd.snd.fst (32768 : Nat) xx2.snd.snd.snd.fst xx2.snd.snd.snd.snd (0 : Nat) (0 : Nat) (V0 xx2.snd.fst), bts xx2.snd.snd.fst (32768 : Nat) xx2.snd.snd.snd.fst xx1.snd, bts xx2.snd.snd.snd.snd (0 : Nat) (0 : Nat) (List.replicate (0 : Nat) (0 : Int)), bts xx1.fst (32768 : Nat) (32768 : Nat) xx1.snd, A, row xb1 (26 : Nat) [iv 0, iv 0, iv 0, iv sd, iv 0, Value.slice none (0 : Nat) (0 : Nat), Value.slice none (0 : Nat) (0 : Nat), Value.bool false], TyP te ta tc] (fun _ => by kernel_rfl) (@hpb ) (by kernel_rfl) (by kernel_rfl) (by kernel_rfl) ?_)
    refine Xg.ops_op (by kernel_rfl) (Xg.opx_pure ((iv (pickI bk (2 : Int)))) rfl (fun _ => by kernel_rfl) ?_)
    refine Xg.ops_nil ?_
    refine Xg.at_seq ?_
    refine Xg.at_seq ?_
    refine Xg.at_region ?_
    refine Xg.ops_op (by kernel_rfl) (Xg.opx_pure ((iv 0)) rfl (fun _ => by kernel_rfl) ?_)
    refine Xg.ops_nil ?_
    refine Xg.at_block ?_
    refine Xg.at_seq ?_
    refine Xg.at_region ?_
    refine Xg.ops_op (by kernel_rfl) (Xg.opx_pure ((Value.bool true)) rfl (fun _ => by kernel_rfl) ?_)
    refine Xg.ops_op (by kernel_rfl) (Xg.opx_pure ((Value.bool true)) rfl (fun _ => by kernel_rfl) ?_)
    refine Xg.ops_nil ?_
    refine Xg.at_true (t := true) (by kernel_rfl) rfl ?_
    refine Xg.at_region ?_
    refine Xg.ops_op (by kernel_rfl) (Xg.opx_pure ((iv 1)) rfl (fun _ => by kernel_rfl) ?_)
    refine Xg.ops_nil ?_
    refine Xg.at_inBlock ?_
    refine Xg.at_seq ?_
    refine Xg.at_region ?_
    refine Xg.ops_op (by kernel_rfl) (Xg.opx_pure ((iv at0)) rfl (fun _ => by kernel_rfl) ?_)
    refine Xg.ops_op (by kernel_rfl) (Xg.opx_call1' [] [CR xx2.fst h xx2.snd.snd.fst (32768 : Nat) xx2.snd.snd.snd.fst xx2.snd.snd.snd.snd (0 : Nat) (0 : Nat) (V0 xx2.snd.fst), bts xx2.snd.snd.fst (32768 : Nat) xx2.snd.snd.snd.fst xx1.snd, bts xx2.snd.snd.snd.snd (0 : Nat) (0 : Nat) (List.replicate (0 : Nat) (0 : Int)), bts xx1.fst (32768 : Nat) (32768 : Nat) xx1.snd, A, row xb1 (26 : Nat) [iv 0, iv 0, iv 0, iv sd, iv 0, Value.slice none (0 : Nat) (0 : Nat), Value.slice none (0 : Nat) (0 : Nat), Value.bool false], TyP te ta tc] (fun _ => by kernel_rfl) (@hpa ) (by kernel_rfl) (by kernel_rfl) (by kernel_rfl) ?_)
    refine Xg.ops_op (by kernel_rfl) (Xg.opx_pure ((iv (↑i : Int))) rfl (fun _ => by kernel_rfl) ?_)
    refine Xg.ops_nil ?_
    refine Xg.at_seq ?_
    refine Xg.at_region ?_
    refine Xg.ops_op (by kernel_rfl) (Xg.opx_pure ((pv xx2.fst 0)) rfl (fun _ => by kernel_rfl) ?_)
    refine Xg.ops_op (by kernel_rfl) (Xg.opx_pure ((iv (↑i : Int))) rfl (fun _ => by kernel_rfl) ?_))
  have hkb : ((1 : Nat) : Int) < h.bk := by rw [hbk2]; decide
  have hz1 := read0_d xx2.1 xx2.2.1 h (⟨0, 1, 0, 0, 0⟩ : Rg) xx2.2.2.1 32768 xx2.2.2.2.1 xx2.2.2.2.2 0 0 xx1.2 (List.replicate 0 0) (i : Int) ⟨by omega, by omega⟩ hrok (by rw [hbk2]; decide) xh1.l (by rw [hbk2]; decide) xh2 (List.length_replicate) (Nat.le_refl _) (isB_rep _) hmp (Or.inl rfl)
  rw [read_low 0 (⟨0, 1, 0, 0, 0⟩ : Rg) h.bk xx1.2 _ i hlow (by omega)] at hz1
  have hz2 := read0_d xx2.1 xx2.2.1 h (⟨0, 1, 0, 0, 0⟩ : Rg) xx2.2.2.1 32768 xx2.2.2.2.1 xx2.2.2.2.2 0 0 xx1.2 (List.replicate 0 0) (16384 + (i : Int)) ⟨by omega, by omega⟩ hrok (by rw [hbk2]; decide) xh1.l (by rw [hbk2]; decide) xh2 (List.length_replicate) (Nat.le_refl _) (isB_rep _) hmp (Or.inl rfl)
  rw [read_high 0 (⟨0, 1, 0, 0, 0⟩ : Rg) h.bk xx1.2 _ 1 i hhigh hkb (by omega)] at hz2
  have hz3 := read0_d xx2.1 xx2.2.1 h (⟨0, 1, 0, 0, 0⟩ : Rg) xx2.2.2.1 32768 xx2.2.2.2.1 xx2.2.2.2.2 0 0 xx1.2 (List.replicate 0 0) 16383 ⟨by decide, by decide⟩ hrok (by rw [hbk2]; decide) xh1.l (by rw [hbk2]; decide) xh2 (List.length_replicate) (Nat.le_refl _) (isB_rep _) hmp (Or.inl rfl)
  rw [read_low' 0 (⟨0, 1, 0, 0, 0⟩ : Rg) h.bk xx1.2 _ hlow] at hz3
  have hz4 := read0_d xx2.1 xx2.2.1 h (⟨0, 1, 0, 0, 0⟩ : Rg) xx2.2.2.1 32768 xx2.2.2.2.1 xx2.2.2.2.2 0 0 xx1.2 (List.replicate 0 0) 32767 ⟨by decide, by decide⟩ hrok (by rw [hbk2]; decide) xh1.l (by rw [hbk2]; decide) xh2 (List.length_replicate) (Nat.le_refl _) (isB_rep _) hmp (Or.inl rfl)
  rw [read_high' 0 (⟨0, 1, 0, 0, 0⟩ : Rg) h.bk xx1.2 _ 1 hhigh hkb] at hz4
  have hg1 : xx1.2.getD ((16384 : Int) + (i : Int)).toNat 0 = xx1.2.getD (16384 * 1 + i) 0 := by first | rfl | (congr 1; omega)
  have hg2 : xx1.2.getD ((32767 : Int)).toNat 0 = xx1.2.getD (16384 * 1 + 16383) 0 := by first | rfl | (congr 1; omega)
  rw [← hg1] at hz2
  rw [show xx1.2.getD (16384 * 1 + 16383) 0 = xx1.2.getD 32767 0 from rfl] at hz4
  (focus
    refine Xg.ops_op (by kernel_rfl) (Xg.opx_call1' [0, 1, 2] [CR xx2.fst h xx2.snd.snd.fst (32768 : Nat) xx2.snd.snd.snd.fst xx2.snd.snd.snd.snd (0 : Nat) (0 : Nat) (V0 xx2.snd.fst), bts xx2.snd.snd.fst (32768 : Nat) xx2.snd.snd.snd.fst xx1.snd, bts xx2.snd.snd.snd.snd (0 : Nat) (0 : Nat) (List.replicate (0 : Nat) (0 : Int)), bts xx1.fst (32768 : Nat) (32768 : Nat) xx1.snd, A, row xb1 (26 : Nat) [iv 0, iv 0, iv 0, iv sd, iv 0, Value.slice none (0 : Nat) (0 : Nat), Value.slice none (0 : Nat) (0 : Nat), Value.bool false], TyP te ta tc] (fun _ => by kernel_rfl) (@hz1 ) (by kernel_rfl) (by kernel_rfl) (by kernel_rfl) ?_)
    refine Xg.ops_op (by kernel_rfl) (Xg.opx_pure ((uv (xx1.snd.getD i (0 : Int)))) rfl (fun _ => by kernel_rfl) ?_)
    refine Xg.ops_nil ?_
    refine Xg.at_seq ?_
    refine Xg.at_region ?_
    refine Xg.ops_op (by kernel_rfl) (Xg.opx_pure ((pv xx2.fst 0)) rfl (fun _ => by kernel_rfl) ?_)
    refine Xg.ops_op (by kernel_rfl) (Xg.opx_pure ((iv (↑i : Int))) rfl (fun _ => by kernel_rfl) ?_)
    refine Xg.ops_op (by kernel_rfl) (Xg.opx_int .i64 (IntKind.wrap .i64 (((16384 : Int) + (↑i : Int)))) rfl (fun _ => by kernel_rfl) (Xg.wrap_i64_in (by omega)) ?_)
    refine Xg.ops_op (by kernel_rfl) (Xg.opx_call1' [0, 1, 2] [CR xx2.fst h xx2.snd.snd.fst (32768 : Nat) xx2.snd.snd.snd.fst xx2.snd.snd.snd.snd (0 : Nat) (0 : Nat) (V0 xx2.snd.fst), bts xx2.snd.snd.fst (32768 : Nat) xx2.snd.snd.snd.fst xx1.snd, bts xx2.snd.snd.snd.snd (0 : Nat) (0 : Nat) (List.replicate (0 : Nat) (0 : Int)), bts xx1.fst (32768 : Nat) (32768 : Nat) xx1.snd, A, row xb1 (26 : Nat) [iv 0, iv 0, iv 0, iv sd, iv 0, Value.slice none (0 : Nat) (0 : Nat), Value.slice none (0 : Nat) (0 : Nat), Value.bool false], TyP te ta tc] (fun _ => by kernel_rfl) (@hz2 ) (by kernel_rfl) (by kernel_rfl) (by kernel_rfl) ?_)
    refine Xg.ops_op (by kernel_rfl) (Xg.opx_pure ((uv (xx1.snd.getD ((16384 : Int) + (↑i : Int)).toNat (0 : Int)))) rfl (fun _ => by kernel_rfl) ?_)
    refine Xg.ops_nil ?_
    refine Xg.at_seq ?_
    refine Xg.at_draw [19, 27] [(3, [0, 1, 2, 3], (RdIs (1 : Nat) (Value.slice xx1.fst (32768 : Nat) (32768 : Nat)) (32768 : Nat) (List.map (Value.int IntKind.u8) xx1.snd))), (4, [0, 1, 2, 3, 4], (RdIs (1 : Nat) (Value.slice xx1.fst (32768 : Nat) (32768 : Nat)) (32768 : Nat) (List.map (Value.int IntKind.u8) xx1.snd))), (13, [0, 1, 2, 3, 4, 5, 6, 7, 8, 9, 10, 11, 12, 13], (RdIs (1 : Nat) (Value.slice xx1.fst (32768 : Nat) (32768 : Nat)) (32768 : Nat) (List.map (Value.int IntKind.u8) xx1.snd))), (14, [0, 1, 2, 3, 4, 5, 6, 7, 8, 9, 10, 11, 12, 13, 14], (RdIs (1 : Nat) (Value.slice xx1.fst (32768 : Nat) (32768 : Nat)) (32768 : Nat) (List.map (Value.int IntKind.u8) xx1.snd))), (21, [0, 1, 2, 3, 4, 5, 6, 7, 8, 9, 10, 11, 12, 13, 14, 15, 16, 17, 18, 19, 20, 21], (RdIs (1 : Nat) (Value.slice xx1.fst (32768 : Nat) (32768 : Nat)) (32768 : Nat) (List.map (Value.int IntKind.u8) xx1.snd))), (22, [0, 1, 2, 3, 4, 5, 6, 7, 8, 9, 10, 11, 12, 13, 14, 15, 16, 17, 18, 19, 20, 21, 22], (RdIs (1 : Nat) (Value.slice xx1.fst (32768 : Nat) (32768 : Nat)) (32768 : Nat) (List.map (Value.int IntKind.u8) xx1.snd))), (32, [0, 1, 2, 3, 4, 5, 6, 7, 8, 9, 10, 11, 12, 13, 14, 15, 16, 17, 18, 19, 20, 21, 22, 23, 24, 25, 26, 27, 28, 29, 30, 31, 32], (RdIs (1 : Nat) (Value.slice xx1.fst (32768 : Nat) (32768 : Nat)) (32768 : Nat) (List.map (Value.int IntKind.u8) xx1.snd))), (33, [0, 1, 2, 3, 4, 5, 6, 7, 8, 9, 10, 11, 12, 13, 14, 15, 16, 17, 18, 19, 20, 21, 22, 23, 24, 25, 26, 27, 28, 29, 30, 31, 32, 33], (RdIs (1 : Nat) (Value.slice xx1.fst (32768 : Nat) (32768 : Nat)) (32768 : Nat) (List.map (Value.int IntKind.u8) xx1.snd)))] (by kernel_rfl) ?_
    refine Xg.any_pure ((uv (xx1.snd.getD i (0 : Int)))) 0 (by kernel_rfl) rfl (by kernel_rfl) (by kernel_rfl) (by kernel_rfl) (by kernel_rfl) rfl (fun _ => by kernel_rfl) ?_
    refine Xg.any_pure ((Value.slice xx1.fst (32768 : Nat) (32768 : Nat))) 1 (by kernel_rfl) rfl (by kernel_rfl) (by kernel_rfl) (by kernel_rfl) (by kernel_rfl) rfl (fun _ => by kernel_rfl) ?_
    refine Xg.any_pure ((iv (↑i : Int))) 2 (by kernel_rfl) rfl (by kernel_rfl) (by kernel_rfl) (by kernel_rfl) (by kernel_rfl) rfl (fun _ => by kernel_rfl) ?_
    refine Xg.any_reads (.pointer (some (Addr.mk (Xg.blk xx1.fst) (offA xx1.fst + i) none))) 3 0 (by kernel_rfl) rfl (by kernel_rfl) (by kernel_rfl) (by kernel_rfl) (by kernel_rfl) rfl rfl (by kernel_rfl) (Xg.rd_now 3 (Xg.reads_own (E := ((5 : TypeId))) (sz := ((1 : Nat))) (n := ((32768 : Nat))) (c := ((32768 : Nat))) (a := xx1.fst) (vs := (List.map (Value.int IntKind.u8) xx1.snd))) (by kernel_rfl)) (Xg.run_ix_rd (elem := 5) (kd := .i64) (e := ((↑i : Int))) 1 i (offA xx1.fst + i) (by kernel_rfl) (by kernel_rfl) (by kernel_rfl) (by kernel_rfl) rfl (by omega) (by simp only [List.length_map]; omega) (by omega)) ?_
    refine Xg.any_reads (uv (xx1.snd.getD i (0 : Int))) 4 1 (by kernel_rfl) rfl (by kernel_rfl) (by kernel_rfl) (by kernel_rfl) (by kernel_rfl) rfl rfl (by kernel_rfl) (Xg.rd_now 3 (Xg.reads_own (E := ((5 : TypeId))) (sz := ((1 : Nat))) (n := ((32768 : Nat))) (c := ((32768 : Nat))) (a := xx1.fst) (vs := (List.map (Value.int IntKind.u8) xx1.snd))) (by kernel_rfl)) (Xg.run_load_rd (off0 := (offA xx1.fst + i)) i (by kernel_rfl) (by omega) (Xg.get_ints (by omega)) (by kernel_rfl)) ?_
    refine Xg.any_pure (.bool (decide (((xx1.snd.getD i (0 : Int)) : Int) = (xx1.snd.getD i (0 : Int))))) 5 (by kernel_rfl) rfl (by kernel_rfl) (by kernel_rfl) (by kernel_rfl) (by kernel_rfl) rfl (fun _ => by kernel_rfl) ?_
    refine Xg.any_pure ((Value.bool (decide (xx1.snd.getD i (0 : Int) = xx1.snd.getD i (0 : Int))))) 6 (by kernel_rfl) rfl (by kernel_rfl) (by kernel_rfl) (by kernel_rfl) (by kernel_rfl) rfl (fun _ => by kernel_rfl) ?_
    refine Xg.any_flag (j := 137) (c := (decide (xx1.snd.getD i (0 : Int) = xx1.snd.getD i (0 : Int)))) (by kernel_rfl) (fun _ => ?_) (fun xh3 => absurd (of_decide_eq_false xh3) (by omega))
    refine Xg.any_pure ((uv (xx1.snd.getD ((16384 : Int) + (↑i : Int)).toNat (0 : Int)))) 7 (by kernel_rfl) rfl (by kernel_rfl) (by kernel_rfl) (by kernel_rfl) (by kernel_rfl) rfl (fun _ => by kernel_rfl) ?_
    refine Xg.any_pure ((Value.slice xx1.fst (32768 : Nat) (32768 : Nat))) 8 (by kernel_rfl) rfl (by kernel_rfl) (by kernel_rfl) (by kernel_rfl) (by kernel_rfl) rfl (fun _ => by kernel_rfl) ?_
    refine Xg.any_pure ((iv 1)) 9 (by kernel_rfl) rfl (by kernel_rfl) (by kernel_rfl) (by kernel_rfl) (by kernel_rfl) rfl (fun _ => by kernel_rfl) ?_
    refine Xg.any_pure ((iv 16384)) 10 (by kernel_rfl) rfl (by kernel_rfl) (by kernel_rfl) (by kernel_rfl) (by kernel_rfl) rfl (fun _ => by kernel_rfl) ?_
    refine Xg.any_pure ((iv (↑i : Int))) 11 (by kernel_rfl) rfl (by kernel_rfl) (by kernel_rfl) (by kernel_rfl) (by kernel_rfl) rfl (fun _ => by kernel_rfl) ?_
    refine Xg.any_int .i64 (IntKind.wrap .i64 (((16384 : Int) + (↑i : Int)))) 12 (by kernel_rfl) rfl (by kernel_rfl) (by kernel_rfl) (by kernel_rfl) (by kernel_rfl) rfl (fun _ => by kernel_rfl) (Xg.wrap_i64_in (by omega)) ?_
    refine Xg.any_reads (.pointer (some (Addr.mk (Xg.blk xx1.fst) (offA xx1.fst + ((16384 : Int) + (↑i : Int)).toNat) none))) 13 2 (by kernel_rfl) rfl (by kernel_rfl) (by kernel_rfl) (by kernel_rfl) (by kernel_rfl) rfl rfl (by kernel_rfl) (Xg.rd_now 3 (Xg.reads_own (E := ((5 : TypeId))) (sz := ((1 : Nat))) (n := ((32768 : Nat))) (c := ((32768 : Nat))) (a := xx1.fst) (vs := (List.map (Value.int IntKind.u8) xx1.snd))) (by kernel_rfl)) (Xg.run_ix_rd (elem := 5) (kd := .i64) (e := ((16384 : Int) + (↑i : Int))) 1 (((16384 : Int) + (↑i : Int)).toNat) (offA xx1.fst + ((16384 : Int) + (↑i : Int)).toNat) (by kernel_rfl) (by kernel_rfl) (by kernel_rfl) (by kernel_rfl) (by omega) (by omega) (by simp only [List.length_map]; omega) (by omega)) ?_
    refine Xg.any_reads (uv (xx1.snd.getD ((16384 : Int) + (↑i : Int)).toNat (0 : Int))) 14 3 (by kernel_rfl) rfl (by kernel_rfl) (by kernel_rfl) (by kernel_rfl) (by kernel_rfl) rfl rfl (by kernel_rfl) (Xg.rd_now 3 (Xg.reads_own (E := ((5 : TypeId))) (sz := ((1 : Nat))) (n := ((32768 : Nat))) (c := ((32768 : Nat))) (a := xx1.fst) (vs := (List.map (Value.int IntKind.u8) xx1.snd))) (by kernel_rfl)) (Xg.run_load_rd (off0 := (offA xx1.fst + ((16384 : Int) + (↑i : Int)).toNat)) (((16384 : Int) + (↑i : Int)).toNat) (by kernel_rfl) (by omega) (Xg.get_ints (by omega)) (by kernel_rfl)) ?_
    refine Xg.any_pure (.bool (decide (((xx1.snd.getD ((16384 : Int) + (↑i : Int)).toNat (0 : Int)) : Int) = (xx1.snd.getD ((16384 : Int) + (↑i : Int)).toNat (0 : Int))))) 15 (by kernel_rfl) rfl (by kernel_rfl) (by kernel_rfl) (by kernel_rfl) (by kernel_rfl) rfl (fun _ => by kernel_rfl) ?_
    refine Xg.any_flag (j := 146) (c := (decide (xx1.snd.getD ((16384 : Int) + (↑i : Int)).toNat (0 : Int) = xx1.snd.getD ((16384 : Int) + (↑i : Int)).toNat (0 : Int)))) (by kernel_rfl) (fun _ => ?_) (fun xh3 => absurd (of_decide_eq_false xh3) (by omega))
    refine Xg.any_pure ((Value.bool true)) 16 (by kernel_rfl) rfl (by kernel_rfl) (by kernel_rfl) (by kernel_rfl) (by kernel_rfl) rfl (fun _ => by kernel_rfl) ?_
    refine Xg.any_pure ((Value.bool true)) 17 (by kernel_rfl) rfl (by kernel_rfl) (by kernel_rfl) (by kernel_rfl) (by kernel_rfl) rfl (fun _ => by kernel_rfl) ?_
    refine Xg.any_pure ((pv xx2.fst 0)) 18 (by kernel_rfl) rfl (by kernel_rfl) (by kernel_rfl) (by kernel_rfl) (by kernel_rfl) rfl (fun _ => by kernel_rfl) ?_
    refine Xg.any_pure ((Value.slice xx1.fst (32768 : Nat) (32768 : Nat))) 20 (by kernel_rfl) rfl (by kernel_rfl) (by kernel_rfl) (by kernel_rfl) (by kernel_rfl) rfl (fun _ => by kernel_rfl) ?_
    refine Xg.any_reads (.pointer (some (Addr.mk (Xg.blk xx1.fst) (offA xx1.fst + (16383 : Nat)) none))) 21 4 (by kernel_rfl) rfl (by kernel_rfl) (by kernel_rfl) (by kernel_rfl) (by kernel_rfl) rfl rfl (by kernel_rfl) (Xg.rd_now 3 (Xg.reads_own (E := ((5 : TypeId))) (sz := ((1 : Nat))) (n := ((32768 : Nat))) (c := ((32768 : Nat))) (a := xx1.fst) (vs := (List.map (Value.int IntKind.u8) xx1.snd))) (by kernel_rfl)) (Xg.run_ix_rd (elem := 5) (kd := .i64) (e := ((16383 : Int))) 1 ((16383 : Nat)) (offA xx1.fst + (16383 : Nat)) (by kernel_rfl) (by kernel_rfl) (by kernel_rfl) (by kernel_rfl) rfl (by omega) (by simp only [List.length_map]; omega) (by omega)) ?_
    refine Xg.any_reads (uv (xx1.snd.getD (16383 : Nat) (0 : Int))) 22 5 (by kernel_rfl) rfl (by kernel_rfl) (by kernel_rfl) (by kernel_rfl) (by kernel_rfl) rfl rfl (by kernel_rfl) (Xg.rd_now 3 (Xg.reads_own (E := ((5 : TypeId))) (sz := ((1 : Nat))) (n := ((32768 : Nat))) (c := ((32768 : Nat))) (a := xx1.fst) (vs := (List.map (Value.int IntKind.u8) xx1.snd))) (by kernel_rfl)) (Xg.run_load_rd (off0 := (offA xx1.fst + (16383 : Nat))) ((16383 : Nat)) (by kernel_rfl) (by omega) (Xg.get_ints (by omega)) (by kernel_rfl)) ?_
    refine Xg.any_each [19] (by kernel_rfl) rfl ⟨?_, trivial⟩
    refine Xg.comes_act rfl (by kernel_rfl) (by kernel_rfl) (Xg.opx_call1' [0, 1, 2] [CR xx2.fst h xx2.snd.snd.fst (32768 : Nat) xx2.snd.snd.snd.fst xx2.snd.snd.snd.snd (0 : Nat) (0 : Nat) (V0 xx2.snd.fst), bts xx2.snd.snd.fst (32768 : Nat) xx2.snd.snd.snd.fst xx1.snd, bts xx2.snd.snd.snd.snd (0 : Nat) (0 : Nat) (List.replicate (0 : Nat) (0 : Int)), bts xx1.fst (32768 : Nat) (32768 : Nat) xx1.snd, A, row xb1 (26 : Nat) [iv 0, iv 0, iv 0, iv sd, iv 0, Value.slice none (0 : Nat) (0 : Nat), Value.slice none (0 : Nat) (0 : Nat), Value.bool false], TyP te ta tc] (fun _ => by kernel_rfl) (@hz3 ) (by kernel_rfl) (by kernel_rfl) (by kernel_rfl) ?_)
    refine Xg.acts (Xg.owes_skip (by kernel_rfl) (Xg.owes_skip (by kernel_rfl) (Xg.owes_skip (by kernel_rfl) (Xg.owes_skip (by kernel_rfl) (Xg.owes_rd 3 (Xg.reads_own (E := ((5 : TypeId))) (sz := ((1 : Nat))) (n := ((32768 : Nat))) (c := ((32768 : Nat))) (a := xx1.fst) (vs := (List.map (Value.int IntKind.u8) xx1.snd))) (by kernel_rfl) (Xg.owes_rd 3 (Xg.reads_own (E := ((5 : TypeId))) (sz := ((1 : Nat))) (n := ((32768 : Nat))) (c := ((32768 : Nat))) (a := xx1.fst) (vs := (List.map (Value.int IntKind.u8) xx1.snd))) (by kernel_rfl) (Xg.owes_rd 3 (Xg.reads_own (E := ((5 : TypeId))) (sz := ((1 : Nat))) (n := ((32768 : Nat))) (c := ((32768 : Nat))) (a := xx1.fst) (vs := (List.map (Value.int IntKind.u8) xx1.snd))) (by kernel_rfl) (Xg.owes_rd 3 (Xg.reads_own (E := ((5 : TypeId))) (sz := ((1 : Nat))) (n := ((32768 : Nat))) (c := ((32768 : Nat))) (a := xx1.fst) (vs := (List.map (Value.int IntKind.u8) xx1.snd))) (by kernel_rfl) Xg.owes_nil)))))))) ?_
    refine Xg.any_pure (.bool (decide (((xx1.snd.getD (16383 : Nat) (0 : Int)) : Int) = (xx1.snd.getD (16383 : Nat) (0 : Int))))) 23 (by kernel_rfl) rfl (by kernel_rfl) (by kernel_rfl) (by kernel_rfl) (by kernel_rfl) rfl (fun _ => by kernel_rfl) ?_
    refine Xg.any_flag (j := 154) (c := (decide (xx1.snd.getD (16383 : Nat) (0 : Int) = xx1.snd.getD (16383 : Nat) (0 : Int)))) (by kernel_rfl) (fun _ => ?_) (fun xh3 => absurd (of_decide_eq_false xh3) (by omega))
    refine Xg.any_pure ((Value.bool true)) 24 (by kernel_rfl) rfl (by kernel_rfl) (by kernel_rfl) (by kernel_rfl) (by kernel_rfl) rfl (fun _ => by kernel_rfl) ?_
    refine Xg.any_pure ((Value.bool true)) 25 (by kernel_rfl) rfl (by kernel_rfl) (by kernel_rfl) (by kernel_rfl) (by kernel_rfl) rfl (fun _ => by kernel_rfl) ?_
    refine Xg.any_pure ((pv xx2.fst 0)) 26 (by kernel_rfl) rfl (by kernel_rfl) (by kernel_rfl) (by kernel_rfl) (by kernel_rfl) rfl (fun _ => by kernel_rfl) ?_
    refine Xg.any_pure ((Value.slice xx1.fst (32768 : Nat) (32768 : Nat))) 28 (by kernel_rfl) rfl (by kernel_rfl) (by kernel_rfl) (by kernel_rfl) (by kernel_rfl) rfl (fun _ => by kernel_rfl) ?_
    refine Xg.any_pure ((iv 1)) 29 (by kernel_rfl) rfl (by kernel_rfl) (by kernel_rfl) (by kernel_rfl) (by kernel_rfl) rfl (fun _ => by kernel_rfl) ?_
    refine Xg.any_pure ((iv 16384)) 30 (by kernel_rfl) rfl (by kernel_rfl) (by kernel_rfl) (by kernel_rfl) (by kernel_rfl) rfl (fun _ => by kernel_rfl) ?_
    refine Xg.any_pure ((iv 32767)) 31 (by kernel_rfl) rfl (by kernel_rfl) (by kernel_rfl) (by kernel_rfl) (by kernel_rfl) rfl (fun _ => by kernel_rfl) ?_
    refine Xg.any_reads (.pointer (some (Addr.mk (Xg.blk xx1.fst) (offA xx1.fst + (32767 : Nat)) none))) 32 6 (by kernel_rfl) rfl (by kernel_rfl) (by kernel_rfl) (by kernel_rfl) (by kernel_rfl) rfl rfl (by kernel_rfl) (Xg.rd_now 3 (Xg.reads_own (E := ((5 : TypeId))) (sz := ((1 : Nat))) (n := ((32768 : Nat))) (c := ((32768 : Nat))) (a := xx1.fst) (vs := (List.map (Value.int IntKind.u8) xx1.snd))) (by kernel_rfl)) (Xg.run_ix_rd (elem := 5) (kd := .i64) (e := ((32767 : Int))) 1 ((32767 : Nat)) (offA xx1.fst + (32767 : Nat)) (by kernel_rfl) (by kernel_rfl) (by kernel_rfl) (by kernel_rfl) rfl (by omega) (by simp only [List.length_map]; omega) (by omega)) ?_
    refine Xg.any_reads (uv (xx1.snd.getD (32767 : Nat) (0 : Int))) 33 7 (by kernel_rfl) rfl (by kernel_rfl) (by kernel_rfl) (by kernel_rfl) (by kernel_rfl) rfl rfl (by kernel_rfl) (Xg.rd_now 3 (Xg.reads_own (E := ((5 : TypeId))) (sz := ((1 : Nat))) (n := ((32768 : Nat))) (c := ((32768 : Nat))) (a := xx1.fst) (vs := (List.map (Value.int IntKind.u8) xx1.snd))) (by kernel_rfl)) (Xg.run_load_rd (off0 := (offA xx1.fst + (32767 : Nat))) ((32767 : Nat)) (by kernel_rfl) (by omega) (Xg.get_ints (by omega)) (by kernel_rfl)) ?_
    refine Xg.any_each [27] (by kernel_rfl) rfl ⟨?_, trivial⟩
    refine Xg.comes_act rfl (by kernel_rfl) (by kernel_rfl) (Xg.opx_call1' [0, 1, 2] [CR xx2.fst h xx2.snd.snd.fst (32768 : Nat) xx2.snd.snd.snd.fst xx2.snd.snd.snd.snd (0 : Nat) (0 : Nat) (V0 xx2.snd.fst), bts xx2.snd.snd.fst (32768 : Nat) xx2.snd.snd.snd.fst xx1.snd, bts xx2.snd.snd.snd.snd (0 : Nat) (0 : Nat) (List.replicate (0 : Nat) (0 : Int)), bts xx1.fst (32768 : Nat) (32768 : Nat) xx1.snd, A, row xb1 (26 : Nat) [iv 0, iv 0, iv 0, iv sd, iv 0, Value.slice none (0 : Nat) (0 : Nat), Value.slice none (0 : Nat) (0 : Nat), Value.bool false], TyP te ta tc] (fun _ => by kernel_rfl) (@hz4 ) (by kernel_rfl) (by kernel_rfl) (by kernel_rfl) ?_)
    refine Xg.acts (Xg.owes_skip (by kernel_rfl) (Xg.owes_skip (by kernel_rfl) (Xg.owes_skip (by kernel_rfl) (Xg.owes_skip (by kernel_rfl) (Xg.owes_skip (by kernel_rfl) (Xg.owes_skip (by kernel_rfl) (Xg.owes_rd 3 (Xg.reads_own (E := ((5 : TypeId))) (sz := ((1 : Nat))) (n := ((32768 : Nat))) (c := ((32768 : Nat))) (a := xx1.fst) (vs := (List.map (Value.int IntKind.u8) xx1.snd))) (by kernel_rfl) (Xg.owes_rd 3 (Xg.reads_own (E := ((5 : TypeId))) (sz := ((1 : Nat))) (n := ((32768 : Nat))) (c := ((32768 : Nat))) (a := xx1.fst) (vs := (List.map (Value.int IntKind.u8) xx1.snd))) (by kernel_rfl) Xg.owes_nil)))))))) ?_
    refine Xg.any_pure (.bool (decide (((xx1.snd.getD (32767 : Nat) (0 : Int)) : Int) = (xx1.snd.getD (32767 : Nat) (0 : Int))))) 34 (by kernel_rfl) rfl (by kernel_rfl) (by kernel_rfl) (by kernel_rfl) (by kernel_rfl) rfl (fun _ => by kernel_rfl) ?_
    refine Xg.any_flag (j := 165) (c := (decide (xx1.snd.getD (32767 : Nat) (0 : Int) = xx1.snd.getD (32767 : Nat) (0 : Int)))) (by kernel_rfl) (fun _ => ?_) (fun xh3 => absurd (of_decide_eq_false xh3) (by omega))
    refine Xg.any_pure ((Value.bool true)) 35 (by kernel_rfl) rfl (by kernel_rfl) (by kernel_rfl) (by kernel_rfl) (by kernel_rfl) rfl (fun _ => by kernel_rfl) ?_
    refine Xg.any_pure ((Value.bool true)) 36 (by kernel_rfl) rfl (by kernel_rfl) (by kernel_rfl) (by kernel_rfl) (by kernel_rfl) rfl (fun _ => by kernel_rfl) ?_
    refine Xg.any_nil (by kernel_rfl) ?_
    refine Xg.at_ret_ps (v := (Value.bool true)) [4, 6] [A, TyP te ta tc] Go.Proofs.Tryd.func4 (fun _ => by kernel_rfl) (by kernel_rfl) (by kernel_rfl) ?_
    exact ⟨by kernel_rfl, by kernel_rfl⟩)
end Go.Proofs.YthjhkondmobaeaaDoor

/- cart's law: each bank is seen. -/
namespace Go.Proofs.YthjhkondmobaeaaDoor
open Go.Sl Go.Xg
set_option linter.unusedVariables false
set_option linter.unusedSimpArgs false
set_option maxHeartbeats 4000000
set_option maxRecDepth 100000

theorem banks_1 (te : TypeId) (A : HP) (ta : Option Addr) (tc : Nat) (Tl : List Int) (hTl : Tl.length = 10) (hT : Reads A 1 (.slice ta 10 tc) 10 (Tl.map (Value.int .i64))) (w cd sd bk at0 : Int) (hw : iok w) (hcd : iok cd) (hsd : iok sd) (hbk : iok bk) (hat : iok at0) (hq : pickI w 5 = 1) (hTq : Tl.getD 1 0 = 1) :
    Does Tryd.prog 4 [.int .i64 w, .int .i64 cd, .int .i64 sd, .int .i64 bk, .int .i64 at0] [A, TyP te ta tc] (Ret (.bool true) [A, TyP te ta tc]) := by
  have hpw := pick_d w 5 hw (by decide)
  rw [hq] at hpw
  have hpc := pick_d cd 7 hcd (by decide)
  have hlc := pick_lt cd 7 (by decide)
  have hpc4 := pick_d cd 4 hcd (by decide)
  have hlc4 := pick_lt cd 4 (by decide)
  have hpa := pick_d at0 16384 hat (by decide)
  have hla := pick_lt at0 16384 (by decide)
  have hp8 := pick_d at0 8192 hat (by decide)
  have hl8 := pick_lt at0 8192 (by decide)
  have hp2 := pick_d at0 256 hat (by decide)
  have hl2 := pick_lt at0 256 (by decide)
  have hp4 := pick_d at0 4096 hat (by decide)
  have hl4 := pick_lt at0 4096 (by decide)
  have hps := pick_d sd 8192 hsd (by decide)
  have hls := pick_lt sd 8192 (by decide)
  have hps1 := pick_d sd 100 hsd (by decide)
  have hls1 := pick_lt sd 100 (by decide)
  obtain ⟨i, hi⟩ : ∃ i : Nat, pickI at0 16384 = (i : Int) := ⟨(pickI at0 16384).toNat, by omega⟩
  rw [hi] at hpa hla
  obtain ⟨hs1, hs2, hs3⟩ := shl_bnk (c := (pickI cd 7)) ⟨by omega, by omega⟩
  have hbm : bnk (pickI cd 7) ≤ 128 := by
    have h : (pickI cd 7) ≤ 6 := by omega
    rcases (show (pickI cd 7) = 0 ∨ (pickI cd 7) = 1 ∨ (pickI cd 7) = 2 ∨ (pickI cd 7) = 3 ∨ (pickI cd 7) = 4 ∨ (pickI cd 7) = 5 ∨ (pickI cd 7) = 6 by omega) with e | e | e | e | e | e | e <;> rw [e] <;> decide
  obtain ⟨n, hn⟩ : ∃ n : Nat, (n : Int) = 16384 * bnk (pickI cd 7) := ⟨(16384 * bnk (pickI cd 7)).toNat, by omega⟩
  have hr0 := rom_own A 1 (pickI cd 7) 0 sd (by decide) ⟨by omega, by omega⟩ (by decide) hsd n hn
  have hpb := pick_d bk (bnk (pickI cd 7)) hbk ⟨by omega, by omega⟩
  have hlb := pick_lt bk (bnk (pickI cd 7)) (by omega)
  obtain ⟨kn, hkn⟩ : ∃ k : Nat, pickI bk (bnk (pickI cd 7)) = (k : Int) := ⟨(pickI bk (bnk (pickI cd 7))).toNat, by omega⟩
  rw [hkn] at hpb hlb
  rw [← hs1] at hpb
  (focus
    refine Xg.spec_of Go.Proofs.Tryd.func4 rfl Go.Proofs.Tryd.ntmps4 fun g F => ?_)
  (focus
    refine Xg.at_seq ?_
    refine Xg.at_region ?_
    refine Xg.ops_op (by kernel_rfl) (Xg.opx_pure ((Value.bool false)) rfl (fun _ => by kernel_rfl) ?_)
    refine Xg.ops_nil ?_
    refine Xg.at_seq ?_
    refine Xg.at_draw [2] [(0, [0, 1, 2], Xg.CellIs (((0 : Nat))) (((0 : Nat))) ((Value.slice ta (10 : Nat) tc))), (3, [0, 1, 2, 3], (RdIs (1 : Nat) (Value.slice ta (10 : Nat) tc) (10 : Nat) (List.map (Value.int IntKind.i64) Tl))), (4, [0, 1, 2, 3, 4], (RdIs (1 : Nat) (Value.slice ta (10 : Nat) tc) (10 : Nat) (List.map (Value.int IntKind.i64) Tl)))] (by kernel_rfl) ?_
    refine Xg.any_reads (Value.slice ta (10 : Nat) tc) 0 0 (by kernel_rfl) rfl (by kernel_rfl) (by kernel_rfl) (by kernel_rfl) (by kernel_rfl) rfl rfl (by kernel_rfl) (Xg.cell_now (b := ((0 : Nat))) (off := ((0 : Nat))) 1 rfl (by kernel_rfl)) (fun _ h => Xg.run_load (by kernel_rfl) (by kernel_rfl) h) ?_
    refine Xg.any_pure ((iv w)) 1 (by kernel_rfl) rfl (by kernel_rfl) (by kernel_rfl) (by kernel_rfl) (by kernel_rfl) rfl (fun _ => by kernel_rfl) ?_
    refine Xg.any_each [2] (by kernel_rfl) rfl ⟨?_, trivial⟩
    refine Xg.comes_act rfl (by kernel_rfl) (by kernel_rfl) (Xg.opx_call1' [] [A, TyP te ta tc] (fun _ => by kernel_rfl) (@hpw ) (by kernel_rfl) (by kernel_rfl) (by kernel_rfl) ?_)
    refine Xg.acts (Xg.owes_cell 1 rfl (by kernel_rfl) (Xg.owes_rd 0 hT (by kernel_rfl) (Xg.owes_rd 0 hT (by kernel_rfl) Xg.owes_nil))) ?_
    refine Xg.any_reads (.pointer (some (Addr.mk (Xg.blk ta) (offA ta + (1 : Nat)) none))) 3 1 (by kernel_rfl) rfl (by kernel_rfl) (by kernel_rfl) (by kernel_rfl) (by kernel_rfl) rfl rfl (by kernel_rfl) (Xg.rd_now 0 hT (by kernel_rfl)) (Xg.run_ix_rd (elem := 3) (kd := .i64) (e := ((1 : Int))) 1 ((1 : Nat)) (offA ta + (1 : Nat)) (by kernel_rfl) (by kernel_rfl) (by kernel_rfl) (by kernel_rfl) rfl (by omega) (by simp only [List.length_map]; omega) (by omega)) ?_
    refine Xg.any_reads (iv (Tl.getD (1 : Nat) (0 : Int))) 4 2 (by kernel_rfl) rfl (by kernel_rfl) (by kernel_rfl) (by kernel_rfl) (by kernel_rfl) rfl rfl (by kernel_rfl) (Xg.rd_now 0 hT (by kernel_rfl)) (Xg.run_load_rd (off0 := (offA ta + (1 : Nat))) ((1 : Nat)) (by kernel_rfl) (by omega) (Xg.get_ints (by omega)) (by kernel_rfl)) ?_
    refine Xg.any_pure ((iv (Tl.getD (1 : Nat) (0 : Int)))) 5 (by kernel_rfl) rfl (by kernel_rfl) (by kernel_rfl) (by kernel_rfl) (by kernel_rfl) rfl (fun _ => by kernel_rfl) ?_
    refine Xg.any_nil (by kernel_rfl) ?_
    refine Xg.at_seq ?_)
  rw [hTq]
  (focus
    refine Xg.at_region ?_
    refine Xg.ops_op (by kernel_rfl) (Xg.opx_pure ((iv cd)) rfl (fun _ => by kernel_rfl) ?_)
    refine Xg.ops_op (by kernel_rfl) (Xg.opx_call1' [] [A, TyP te ta tc] (fun _ => by kernel_rfl) (@hpc ) (by kernel_rfl) (by kernel_rfl) (by kernel_rfl) ?_)
    refine Xg.ops_op (by kernel_rfl) (Xg.opx_pure ((iv (pickI cd (7 : Int)))) rfl (fun _ => by kernel_rfl) ?_)
    refine Xg.ops_nil ?_
    refine Xg.at_seq ?_
    refine Xg.at_seq ?_
    refine Xg.at_region ?_
    refine Xg.ops_op (by kernel_rfl) (Xg.opx_pure ((iv 1)) rfl (fun _ => by kernel_rfl) ?_)
    refine Xg.ops_nil ?_
    refine Xg.at_block ?_
    refine Xg.at_seq ?_
    refine Xg.at_region ?_
    refine Xg.ops_op (by kernel_rfl) (Xg.opx_pure ((Value.bool false)) rfl (fun _ => by kernel_rfl) ?_)
    refine Xg.ops_op (by kernel_rfl) (Xg.opx_pure ((Value.bool false)) rfl (fun _ => by kernel_rfl) ?_)
    refine Xg.ops_nil ?_
    refine Xg.at_false (t := false) (by kernel_rfl) rfl ?_
    refine Xg.at_seq ?_
    refine Xg.at_region ?_
    refine Xg.ops_op (by kernel_rfl) (Xg.opx_pure ((Value.bool false)) rfl (fun _ => by kernel_rfl) ?_)
    refine Xg.ops_op (by kernel_rfl) (Xg.opx_pure ((Value.bool false)) rfl (fun _ => by kernel_rfl) ?_)
    refine Xg.ops_nil ?_
    refine Xg.at_false (t := false) (by kernel_rfl) rfl ?_
    refine Xg.at_skip ?_
    refine Xg.at_inBlock ?_
    refine Xg.at_seq ?_
    refine Xg.at_region ?_
    refine Xg.ops_op (by kernel_rfl) (Xg.opx_pure ((iv 1)) rfl (fun _ => by kernel_rfl) ?_)
    refine Xg.ops_op (by kernel_rfl) (Xg.opx_pure ((iv (pickI cd (7 : Int)))) rfl (fun _ => by kernel_rfl) ?_)
    refine Xg.ops_op (by kernel_rfl) (Xg.opx_pure ((iv sd)) rfl (fun _ => by kernel_rfl) ?_)
    refine Xg.ops_op (by kernel_rfl) (Xg.opx_pure ((Value.agg #[iv 1, iv (pickI cd (7 : Int)), iv 0, iv sd, iv 0, Value.slice none (0 : Nat) (0 : Nat), Value.slice none (0 : Nat) (0 : Nat), Value.bool false])) rfl (fun _ => by kernel_rfl) ?_)
    refine Xg.ops_op (by kernel_rfl) (Xg.opx_new 8 [iv 0, iv 0, iv 0, iv 0, iv 0, Value.slice none (0 : Nat) (0 : Nat), Value.slice none (0 : Nat) (0 : Nat), Value.bool false] (by kernel_rfl) (by kernel_rfl) fun xb1 => ?_)
    refine Xg.ops_op (by kernel_rfl) (Xg.opx_storen 8 (off := 0) 0 [iv 1, iv (pickI cd (7 : Int)), iv 0, iv sd, iv 0, Value.slice none (0 : Nat) (0 : Nat), Value.slice none (0 : Nat) (0 : Nat), Value.bool false] (by kernel_rfl) rfl (by kernel_rfl) (by kernel_rfl) rfl (by kernel_rfl) (Nat.le_of_ble_eq_true (by kernel_rfl)) ?_)
    refine Xg.ops_nil ?_
    refine Xg.at_seq ?_
    refine Xg.at_region ?_
    refine Xg.ops_op (by kernel_rfl) (Xg.opx_loadn (off := 0) 8 0 [iv 1, iv (pickI cd (7 : Int)), iv 0, iv sd, iv 0, Value.slice none (0 : Nat) (0 : Nat), Value.slice none (0 : Nat) (0 : Nat), Value.bool false] (by kernel_rfl) rfl (by kernel_rfl) rfl (Xg.cells_at (by kernel_rfl)) (by kernel_rfl) ?_)
    refine Xg.ops_op (by kernel_rfl) (Xg.opx_callE' [1] (fun xx1 => [bts xx1.fst n n xx1.snd, A, row xb1 (26 : Nat) [iv 1, iv (pickI cd (7 : Int)), iv 0, iv sd, iv 0, Value.slice none (0 : Nat) (0 : Nat), Value.slice none (0 : Nat) (0 : Nat), Value.bool false], TyP te ta tc]) (fun _ => by kernel_rfl) (@hr0 ) (by kernel_rfl) (by kernel_rfl) (by kernel_rfl) fun xx1 xh1 => ?_)
    try dsimp only at xh1
    refine Xg.ops_op (by kernel_rfl) (Xg.opx_pure ((Value.slice xx1.fst n n)) rfl (fun _ => by kernel_rfl) ?_)
    refine Xg.ops_nil ?_
    refine Xg.at_seq ?_
    refine Xg.at_region ?_
    refine Xg.ops_op (by kernel_rfl) (Xg.opx_pure ((Value.slice xx1.fst n n)) rfl (fun _ => by kernel_rfl) ?_))
  refine Xg.ops_some 0 rfl (by omega) fun hss1 hss2 => ?_
  have hRl := xh1.l
  have hck := chk_box (k := ⟨1, 128, [0], false⟩) xh1 (by decide) ⟨by omega, by omega⟩ (by decide) (by rfl) hbm hn (by decide)
  obtain ⟨h, hh⟩ : ∃ h, hdX 1 (pickI cd 7) 0 sd ⟨1, 128, [0], false⟩ = h := ⟨_, rfl⟩
  have hmp : h.mp = 1 := by rw [← hh]; rfl
  have hbk2 : h.bk = bnk (pickI cd 7) := by rw [← hh]; rfl
  have hrm : h.rm = ((0 : Nat) : Int) := by rw [← hh]; rfl
  rw [hh] at hck
  have hnw := new1_d (bts xx1.1 n n xx1.2) xx1.1 n n xx1.2 h 0 xh1.l (Nat.le_refl _) (by omega) hss1 xh1.b Xg.reads_own hck (by omega) hmp hrm (by decide)
  by_cases hk0 : (kn : Int) % 32 = 0
  · (focus
      refine Xg.ops_op (by kernel_rfl) (Xg.opx_callE' [0] (fun xx2 => [CR xx2.fst h xx2.snd.snd.fst n xx2.snd.snd.snd.fst xx2.snd.snd.snd.snd (0 : Nat) (0 : Nat) (V1 xx2.snd.fst), bts xx2.snd.snd.fst n xx2.snd.snd.snd.fst xx1.snd, bts xx2.snd.snd.snd.snd (0 : Nat) (0 : Nat) (List.replicate (0 : Nat) (0 : Int)), MR1 xx2.snd.fst rg0, bts xx1.fst n n xx1.snd, A, row xb1 (26 : Nat) [iv 1, iv (pickI cd (7 : Int)), iv 0, iv sd, iv 0, Value.slice none (0 : Nat) (0 : Nat), Value.slice none (0 : Nat) (0 : Nat), Value.bool false], TyP te ta tc]) (fun _ => by kernel_rfl) (@hnw ) (by kernel_rfl) (by kernel_rfl) (by kernel_rfl) fun xx2 xh2 => ?_)
      try dsimp only at xh2
      refine Xg.ops_op (by kernel_rfl) (Xg.opx_pure ((Value.tuple #[pv xx2.fst 0, iv 0])) rfl (fun _ => by kernel_rfl) ?_)
      refine Xg.ops_op (by kernel_rfl) (Xg.opx_pure ((pv xx2.fst 0)) rfl (fun _ => by kernel_rfl) ?_)
      refine Xg.ops_op (by kernel_rfl) (Xg.opx_pure ((iv 0)) rfl (fun _ => by kernel_rfl) ?_)
      refine Xg.ops_op (by kernel_rfl) (Xg.opx_pure ((pv xx2.fst 0)) rfl (fun _ => by kernel_rfl) ?_)
      refine Xg.ops_op (by kernel_rfl) (Xg.opx_pure ((iv 0)) rfl (fun _ => by kernel_rfl) ?_)
      refine Xg.ops_nil ?_
      refine Xg.at_seq ?_
      refine Xg.at_seq ?_
      refine Xg.at_region ?_
      refine Xg.ops_op (by kernel_rfl) (Xg.opx_pure ((pv xx2.fst 0)) rfl (fun _ => by kernel_rfl) ?_)
      refine Xg.ops_op (by kernel_rfl) (Xg.opx_pure ((Value.bool false)) rfl (fun _ => by kernel_rfl) ?_)
      refine Xg.ops_op (by kernel_rfl) (Xg.opx_pure ((Value.bool false)) rfl (fun _ => by kernel_rfl) ?_)
      refine Xg.ops_op (by kernel_rfl) (Xg.opx_pure ((iv 0)) rfl (fun _ => by kernel_rfl) ?_)
      refine Xg.ops_op (by kernel_rfl) (Xg.opx_pure ((Value.bool false)) rfl (fun _ => by kernel_rfl) ?_)
      refine Xg.ops_op (by kernel_rfl) (Xg.opx_pure ((Value.bool false)) rfl (fun _ => by kernel_rfl) ?_)
      refine Xg.ops_nil ?_
      refine Xg.at_false (t := false) (by kernel_rfl) rfl ?_
      refine Xg.at_skip ?_
      refine Xg.at_seq ?_
      refine Xg.at_region ?_
      refine Xg.ops_op (by kernel_rfl) (Xg.opx_pure ((iv (pickI cd (7 : Int)))) rfl (fun _ => by kernel_rfl) ?_)
      refine Xg.ops_op (by kernel_rfl) (Xg.opx_run (.int .i64 (IntKind.wrap .i64 (((2 : Int)) * 2 ^ min (Int.toNat (pickI cd (7 : Int))) (IntKind.bits .i64)))) rfl (fun _ => Xg.run_shl (k1 := .i64) (k2 := .i64) (m := ((2 : Int))) (e := (pickI cd (7 : Int))) (by kernel_rfl) (by kernel_rfl) (by omega)) ?_)
      refine Xg.ops_op (by kernel_rfl) (Xg.opx_pure ((iv (IntKind.i64.wrap ((2 : Int) * (2 : Int) ^ min (pickI cd (7 : Int)).toNat IntKind.i64.bits)))) rfl (fun _ => by kernel_rfl) ?_)
      refine Xg.ops_nil ?_
      refine Xg.at_seq ?_
      refine Xg.at_region ?_
      refine Xg.ops_op (by kernel_rfl) (Xg.opx_pure ((iv bk)) rfl (fun _ => by kernel_rfl) ?_)
      refine Xg.ops_op (by kernel_rfl) (Xg.opx_pure ((iv (IntKind.i64.wrap ((2 : Int) * (2 : Int) ^ min (pickI cd (7 : Int)).toNat IntKind.i64.bits)))) rfl (fun _ => by kernel_rfl) ?_)
      refine Xg.ops_op (by kernel_rfl) (Xg.opx_call1' [] [CR xx2.fst h xx2.snd.snd.fst n xx2.snd.snd.snd.fst xx2.snd.snd.snd.snd (0 : Nat) (0 : Nat) (V1 xx2.snd.fst), bts xx2.snd.snd.fst n xx2.snd.snd.snd.fst xx1.snd, bts xx2.snd.snd.snd.snd (0 : Nat) (0 : Nat) (List.replicate (0 : Nat) (0 : Int)), MR1 xx2.snd.fst rg0, bts xx1.fst n n xx1.snd, A, row xb1 (26 : Nat) [iv 1, iv (pickI cd (7 : Int)), iv 0, iv sd, iv 0, Value.slice none (0 : Nat) (0 : Nat), Value.slice none (0 : Nat) (0 : Nat), Value.bool false], TyP te ta tc] (fun _ => by kernel_rfl) (@hpb ) (by kernel_rfl) (by kernel_rfl) (by kernel_rfl) ?_)
      refine Xg.ops_op (by kernel_rfl) (Xg.opx_pure ((iv (↑kn : Int))) rfl (fun _ => by kernel_rfl) ?_)
      refine Xg.ops_nil ?_
      refine Xg.at_seq ?_
      refine Xg.at_seq ?_
      refine Xg.at_region ?_
      refine Xg.ops_op (by kernel_rfl) (Xg.opx_pure ((iv 1)) rfl (fun _ => by kernel_rfl) ?_)
      refine Xg.ops_nil ?_
      refine Xg.at_block ?_
      refine Xg.at_seq ?_
      refine Xg.at_region ?_
      refine Xg.ops_op (by kernel_rfl) (Xg.opx_pure ((Value.bool false)) rfl (fun _ => by kernel_rfl) ?_)
      refine Xg.ops_op (by kernel_rfl) (Xg.opx_pure ((Value.bool false)) rfl (fun _ => by kernel_rfl) ?_)
      refine Xg.ops_nil ?_
      refine Xg.at_false (t := false) (by kernel_rfl) rfl ?_
      refine Xg.at_seq ?_
      refine Xg.at_region ?_
      refine Xg.ops_op (by kernel_rfl) (Xg.opx_pure ((Value.bool true)) rfl (fun _ => by kernel_rfl) ?_)
      refine Xg.ops_op (by kernel_rfl) (Xg.opx_pure ((Value.bool true)) rfl (fun _ => by kernel_rfl) ?_)
      refine Xg.ops_nil ?_
      refine Xg.at_true (t := true) (by kernel_rfl) rfl ?_
      refine Xg.at_seq ?_
      refine Xg.at_seq ?_
      refine Xg.at_region ?_
      refine Xg.ops_op (by kernel_rfl) (Xg.opx_pure ((iv (↑kn : Int))) rfl (fun _ => by kernel_rfl) ?_)
      refine Xg.ops_op (by kernel_rfl) (Xg.opx_int .i64 (Int.tmod (((↑kn : Int))) (((32 : Int)))) rfl (fun _ => by kernel_rfl) (Xg.rem_mod _ _ (by omega)) ?_)
      refine Xg.ops_op (by kernel_rfl) (Xg.opx_pure (.bool (decide ((((↑kn : Int) % (32 : Int)) : Int) = ((0 : Int))))) rfl (fun _ => by kernel_rfl) ?_)
      refine Xg.ops_nil ?_
      refine Xg.at_true (t := decide (((↑kn : Int) % (32 : Int) = (0 : Int)))) (by kernel_rfl) (decide_eq_true (by omega)) ?_
      refine Xg.at_region ?_
      refine Xg.ops_op (by kernel_rfl) (Xg.opx_pure ((iv 1)) rfl (fun _ => by kernel_rfl) ?_)
      refine Xg.ops_nil ?_
      refine Xg.at_seq ?_
      refine Xg.at_region ?_
      refine Xg.ops_op (by kernel_rfl) (Xg.opx_pure ((pv xx2.fst 0)) rfl (fun _ => by kernel_rfl) ?_)
      refine Xg.ops_op (by kernel_rfl) (Xg.opx_pure ((iv at0)) rfl (fun _ => by kernel_rfl) ?_))
    obtain ⟨hhigh, hlow⟩ := bank1 (pickI at0 8192) (pickI sd 8192) 1 hl8 hls ⟨by omega, by omega⟩ (by omega)
    have hrok : (regW1 (regW1 (⟨0, 1, 0, 0, 0⟩ : Rg) (8192 + pickI at0 8192) (1 % 32)) (16384 + pickI sd 8192) (1 / 32)).Ok := regW1_ok (regW1_ok (show (⟨0, 1, 0, 0, 0⟩ : Rg).Ok from ⟨by decide, by decide, by decide, by decide, by decide⟩) _ _ ⟨by omega, by omega⟩) _ _ ⟨by omega, by omega⟩
    have hw1 := writeR1_d xx2.1 xx2.2.1 h (⟨0, 1, 0, 0, 0⟩ : Rg) xx2.2.2.1 n xx2.2.2.2.1 xx2.2.2.2.2 0 0 xx1.2 (List.replicate 0 0)
    have hw2 := writeR1_d xx2.1 xx2.2.1 h (regW1 (⟨0, 1, 0, 0, 0⟩ : Rg) (8192 + pickI at0 8192) (1 % 32)) xx2.2.2.1 n xx2.2.2.2.1 xx2.2.2.2.2 0 0 xx1.2 (List.replicate 0 0)
    have hkb : ((1 : Nat) : Int) < h.bk := by rw [hbk2]; omega
    have hz1 := read1_d xx2.1 xx2.2.1 h (regW1 (regW1 (⟨0, 1, 0, 0, 0⟩ : Rg) (8192 + pickI at0 8192) (1 % 32)) (16384 + pickI sd 8192) (1 / 32)) xx2.2.2.1 n xx2.2.2.2.1 xx2.2.2.2.2 0 0 xx1.2 (List.replicate 0 0) (i : Int) ⟨by omega, by omega⟩ hrok (by rw [hbk2]; omega) xh1.l (by rw [hbk2]; omega) xh2 (List.length_replicate) (Nat.le_refl _) (isB_rep _) hmp (Or.inl rfl)
    rw [read_low 1 (regW1 (regW1 (⟨0, 1, 0, 0, 0⟩ : Rg) (8192 + pickI at0 8192) (1 % 32)) (16384 + pickI sd 8192) (1 / 32)) h.bk xx1.2 _ i hlow (by omega)] at hz1
    have hz2 := read1_d xx2.1 xx2.2.1 h (regW1 (regW1 (⟨0, 1, 0, 0, 0⟩ : Rg) (8192 + pickI at0 8192) (1 % 32)) (16384 + pickI sd 8192) (1 / 32)) xx2.2.2.1 n xx2.2.2.2.1 xx2.2.2.2.2 0 0 xx1.2 (List.replicate 0 0) (16384 + (i : Int)) ⟨by omega, by omega⟩ hrok (by rw [hbk2]; omega) xh1.l (by rw [hbk2]; omega) xh2 (List.length_replicate) (Nat.le_refl _) (isB_rep _) hmp (Or.inl rfl)
    rw [read_high 1 (regW1 (regW1 (⟨0, 1, 0, 0, 0⟩ : Rg) (8192 + pickI at0 8192) (1 % 32)) (16384 + pickI sd 8192) (1 / 32)) h.bk xx1.2 _ 1 i hhigh hkb (by omega)] at hz2
    have hz3 := read1_d xx2.1 xx2.2.1 h (regW1 (regW1 (⟨0, 1, 0, 0, 0⟩ : Rg) (8192 + pickI at0 8192) (1 % 32)) (16384 + pickI sd 8192) (1 / 32)) xx2.2.2.1 n xx2.2.2.2.1 xx2.2.2.2.2 0 0 xx1.2 (List.replicate 0 0) 16383 ⟨by decide, by decide⟩ hrok (by rw [hbk2]; omega) xh1.l (by rw [hbk2]; omega) xh2 (List.length_replicate) (Nat.le_refl _) (isB_rep _) hmp (Or.inl rfl)
    rw [read_low' 1 (regW1 (regW1 (⟨0, 1, 0, 0, 0⟩ : Rg) (8192 + pickI at0 8192) (1 % 32)) (16384 + pickI sd 8192) (1 / 32)) h.bk xx1.2 _ hlow] at hz3
    have hz4 := read1_d xx2.1 xx2.2.1 h (regW1 (regW1 (⟨0, 1, 0, 0, 0⟩ : Rg) (8192 + pickI at0 8192) (1 % 32)) (16384 + pickI sd 8192) (1 / 32)) xx2.2.2.1 n xx2.2.2.2.1 xx2.2.2.2.2 0 0 xx1.2 (List.replicate 0 0) 32767 ⟨by decide, by decide⟩ hrok (by rw [hbk2]; omega) xh1.l (by rw [hbk2]; omega) xh2 (List.length_replicate) (Nat.le_refl _) (isB_rep _) hmp (Or.inl rfl)
    rw [read_high' 1 (regW1 (regW1 (⟨0, 1, 0, 0, 0⟩ : Rg) (8192 + pickI at0 8192) (1 % 32)) (16384 + pickI sd 8192) (1 / 32)) h.bk xx1.2 _ 1 hhigh hkb] at hz4
    have hg1 : xx1.2.getD ((16384 : Int) + (i : Int)).toNat 0 = xx1.2.getD (16384 * 1 + i) 0 := by first | rfl | (congr 1; omega)
    have hg2 : xx1.2.getD ((32767 : Int)).toNat 0 = xx1.2.getD (16384 * 1 + 16383) 0 := by first | rfl | (congr 1; omega)
    rw [← hg1] at hz2
    rw [show xx1.2.getD (16384 * 1 + 16383) 0 = xx1.2.getD 32767 0 from rfl] at hz4
    (focus
      refine Xg.ops_op (by kernel_rfl) (Xg.opx_call1' [] [CR xx2.fst h xx2.snd.snd.fst n xx2.snd.snd.snd.fst xx2.snd.snd.snd.snd (0 : Nat) (0 : Nat) (V1 xx2.snd.fst), bts xx2.snd.snd.fst n xx2.snd.snd.snd.fst xx1.snd, bts xx2.snd.snd.snd.snd (0 : Nat) (0 : Nat) (List.replicate (0 : Nat) (0 : Int)), MR1 xx2.snd.fst rg0, bts xx1.fst n n xx1.snd, A, row xb1 (26 : Nat) [iv 1, iv (pickI cd (7 : Int)), iv 0, iv sd, iv 0, Value.slice none (0 : Nat) (0 : Nat), Value.slice none (0 : Nat) (0 : Nat), Value.bool false], TyP te ta tc] (fun _ => by kernel_rfl) (@hp8 ) (by kernel_rfl) (by kernel_rfl) (by kernel_rfl) ?_)
      refine Xg.ops_op (by kernel_rfl) (Xg.opx_int .i64 (IntKind.wrap .i64 (((8192 : Int) + pickI at0 (8192 : Int)))) rfl (fun _ => by kernel_rfl) (Xg.wrap_i64_in (by omega)) ?_)
      refine Xg.ops_op (by kernel_rfl) (Xg.opx_pure ((iv 1)) rfl (fun _ => by kernel_rfl) ?_)
      refine Xg.ops_op (by kernel_rfl) (Xg.opx_pure ((iv 1)) rfl (fun _ => by kernel_rfl) ?_)
      refine Xg.ops_op (by kernel_rfl) (Xg.opx_pure (.int .u8 ((1 : Int))) rfl (fun _ => by kernel_rfl) ?_)
      refine Xg.ops_op (by kernel_rfl) (Xg.opx_call1' [0, 1, 2, 3] [CR xx2.fst h xx2.snd.snd.fst n xx2.snd.snd.snd.fst xx2.snd.snd.snd.snd (0 : Nat) (0 : Nat) (V1 xx2.snd.fst), bts xx2.snd.snd.fst n xx2.snd.snd.snd.fst xx1.snd, bts xx2.snd.snd.snd.snd (0 : Nat) (0 : Nat) (List.replicate (0 : Nat) (0 : Int)), MR1 xx2.snd.fst (regW1 (Rg.mk (0 : Int) (1 : Int) (0 : Int) (0 : Int) (0 : Int)) ((8192 : Int) + pickI at0 (8192 : Int)) (1 : Int)), bts xx1.fst n n xx1.snd, A, row xb1 (26 : Nat) [iv 1, iv (pickI cd (7 : Int)), iv 0, iv sd, iv 0, Value.slice none (0 : Nat) (0 : Nat), Value.slice none (0 : Nat) (0 : Nat), Value.bool false], TyP te ta tc] (fun _ => by kernel_rfl) (@hw1 (((8192 : Int) + pickI at0 (8192 : Int))) (((1 : Int))) (by omega) (by omega)) (by kernel_rfl) (by kernel_rfl) (by kernel_rfl) ?_)
      refine Xg.ops_nil ?_
      refine Xg.at_region ?_
      refine Xg.ops_op (by kernel_rfl) (Xg.opx_pure ((pv xx2.fst 0)) rfl (fun _ => by kernel_rfl) ?_)
      refine Xg.ops_op (by kernel_rfl) (Xg.opx_pure ((iv sd)) rfl (fun _ => by kernel_rfl) ?_)
      refine Xg.ops_op (by kernel_rfl) (Xg.opx_call1' [] [CR xx2.fst h xx2.snd.snd.fst n xx2.snd.snd.snd.fst xx2.snd.snd.snd.snd (0 : Nat) (0 : Nat) (V1 xx2.snd.fst), bts xx2.snd.snd.fst n xx2.snd.snd.snd.fst xx1.snd, bts xx2.snd.snd.snd.snd (0 : Nat) (0 : Nat) (List.replicate (0 : Nat) (0 : Int)), MR1 xx2.snd.fst (regW1 (Rg.mk (0 : Int) (1 : Int) (0 : Int) (0 : Int) (0 : Int)) ((8192 : Int) + pickI at0 (8192 : Int)) (1 : Int)), bts xx1.fst n n xx1.snd, A, row xb1 (26 : Nat) [iv 1, iv (pickI cd (7 : Int)), iv 0, iv sd, iv 0, Value.slice none (0 : Nat) (0 : Nat), Value.slice none (0 : Nat) (0 : Nat), Value.bool false], TyP te ta tc] (fun _ => by kernel_rfl) (@hps ) (by kernel_rfl) (by kernel_rfl) (by kernel_rfl) ?_)
      refine Xg.ops_op (by kernel_rfl) (Xg.opx_int .i64 (IntKind.wrap .i64 (((16384 : Int) + pickI sd (8192 : Int)))) rfl (fun _ => by kernel_rfl) (Xg.wrap_i64_in (by omega)) ?_)
      refine Xg.ops_op (by kernel_rfl) (Xg.opx_pure ((iv 1)) rfl (fun _ => by kernel_rfl) ?_)
      refine Xg.ops_op (by kernel_rfl) (Xg.opx_pure ((iv 0)) rfl (fun _ => by kernel_rfl) ?_)
      refine Xg.ops_op (by kernel_rfl) (Xg.opx_pure (.int .u8 ((0 : Int))) rfl (fun _ => by kernel_rfl) ?_)
      refine Xg.ops_op (by kernel_rfl) (Xg.opx_call1' [0, 1, 2, 3] [CR xx2.fst h xx2.snd.snd.fst n xx2.snd.snd.snd.fst xx2.snd.snd.snd.snd (0 : Nat) (0 : Nat) (V1 xx2.snd.fst), bts xx2.snd.snd.fst n xx2.snd.snd.snd.fst xx1.snd, bts xx2.snd.snd.snd.snd (0 : Nat) (0 : Nat) (List.replicate (0 : Nat) (0 : Int)), MR1 xx2.snd.fst (regW1 (regW1 (Rg.mk (0 : Int) (1 : Int) (0 : Int) (0 : Int) (0 : Int)) ((8192 : Int) + pickI at0 (8192 : Int)) ((1 : Int) % (32 : Int))) ((16384 : Int) + pickI sd (8192 : Int)) (0 : Int)), bts xx1.fst n n xx1.snd, A, row xb1 (26 : Nat) [iv 1, iv (pickI cd (7 : Int)), iv 0, iv sd, iv 0, Value.slice none (0 : Nat) (0 : Nat), Value.slice none (0 : Nat) (0 : Nat), Value.bool false], TyP te ta tc] (fun _ => by kernel_rfl) (@hw2 (((16384 : Int) + pickI sd (8192 : Int))) (((0 : Int))) (by omega) (by omega)) (by kernel_rfl) (by kernel_rfl) (by kernel_rfl) ?_)
      refine Xg.ops_nil ?_
      refine Xg.at_inBlock ?_
      refine Xg.at_seq ?_
      refine Xg.at_region ?_
      refine Xg.ops_op (by kernel_rfl) (Xg.opx_pure ((iv at0)) rfl (fun _ => by kernel_rfl) ?_)
      refine Xg.ops_op (by kernel_rfl) (Xg.opx_call1' [] [CR xx2.fst h xx2.snd.snd.fst n xx2.snd.snd.snd.fst xx2.snd.snd.snd.snd (0 : Nat) (0 : Nat) (V1 xx2.snd.fst), bts xx2.snd.snd.fst n xx2.snd.snd.snd.fst xx1.snd, bts xx2.snd.snd.snd.snd (0 : Nat) (0 : Nat) (List.replicate (0 : Nat) (0 : Int)), MR1 xx2.snd.fst (regW1 (regW1 (Rg.mk (0 : Int) (1 : Int) (0 : Int) (0 : Int) (0 : Int)) ((8192 : Int) + pickI at0 (8192 : Int)) ((1 : Int) % (32 : Int))) ((16384 : Int) + pickI sd (8192 : Int)) (0 : Int)), bts xx1.fst n n xx1.snd, A, row xb1 (26 : Nat) [iv 1, iv (pickI cd (7 : Int)), iv 0, iv sd, iv 0, Value.slice none (0 : Nat) (0 : Nat), Value.slice none (0 : Nat) (0 : Nat), Value.bool false], TyP te ta tc] (fun _ => by kernel_rfl) (@hpa ) (by kernel_rfl) (by kernel_rfl) (by kernel_rfl) ?_)
      refine Xg.ops_op (by kernel_rfl) (Xg.opx_pure ((iv (↑i : Int))) rfl (fun _ => by kernel_rfl) ?_)
      refine Xg.ops_nil ?_
      refine Xg.at_seq ?_
      refine Xg.at_region ?_
      refine Xg.ops_op (by kernel_rfl) (Xg.opx_pure ((pv xx2.fst 0)) rfl (fun _ => by kernel_rfl) ?_)
      refine Xg.ops_op (by kernel_rfl) (Xg.opx_pure ((iv (↑i : Int))) rfl (fun _ => by kernel_rfl) ?_)
      refine Xg.ops_op (by kernel_rfl) (Xg.opx_call1' [0, 1, 2, 3] [CR xx2.fst h xx2.snd.snd.fst n xx2.snd.snd.snd.fst xx2.snd.snd.snd.snd (0 : Nat) (0 : Nat) (V1 xx2.snd.fst), bts xx2.snd.snd.fst n xx2.snd.snd.snd.fst xx1.snd, bts xx2.snd.snd.snd.snd (0 : Nat) (0 : Nat) (List.replicate (0 : Nat) (0 : Int)), MR1 xx2.snd.fst (regW1 (regW1 (Rg.mk (0 : Int) (1 : Int) (0 : Int) (0 : Int) (0 : Int)) ((8192 : Int) + pickI at0 (8192 : Int)) ((1 : Int) % (32 : Int))) ((16384 : Int) + pickI sd (8192 : Int)) (1 / 32 : Int)), bts xx1.fst n n xx1.snd, A, row xb1 (26 : Nat) [iv 1, iv (pickI cd (7 : Int)), iv 0, iv sd, iv 0, Value.slice none (0 : Nat) (0 : Nat), Value.slice none (0 : Nat) (0 : Nat), Value.bool false], TyP te ta tc] (fun _ => by kernel_rfl) (@hz1 ) (by kernel_rfl) (by kernel_rfl) (by kernel_rfl) ?_)
      refine Xg.ops_op (by kernel_rfl) (Xg.opx_pure ((uv (xx1.snd.getD i (0 : Int)))) rfl (fun _ => by kernel_rfl) ?_)
      refine Xg.ops_nil ?_
      refine Xg.at_seq ?_
      refine Xg.at_region ?_
      refine Xg.ops_op (by kernel_rfl) (Xg.opx_pure ((pv xx2.fst 0)) rfl (fun _ => by kernel_rfl) ?_)
      refine Xg.ops_op (by kernel_rfl) (Xg.opx_pure ((iv (↑i : Int))) rfl (fun _ => by kernel_rfl) ?_)
      refine Xg.ops_op (by kernel_rfl) (Xg.opx_int .i64 (IntKind.wrap .i64 (((16384 : Int) + (↑i : Int)))) rfl (fun _ => by kernel_rfl) (Xg.wrap_i64_in (by omega)) ?_)
      refine Xg.ops_op (by kernel_rfl) (Xg.opx_call1' [0, 1, 2, 3] [CR xx2.fst h xx2.snd.snd.fst n xx2.snd.snd.snd.fst xx2.snd.snd.snd.snd (0 : Nat) (0 : Nat) (V1 xx2.snd.fst), bts xx2.snd.snd.fst n xx2.snd.snd.snd.fst xx1.snd, bts xx2.snd.snd.snd.snd (0 : Nat) (0 : Nat) (List.replicate (0 : Nat) (0 : Int)), MR1 xx2.snd.fst (regW1 (regW1 (Rg.mk (0 : Int) (1 : Int) (0 : Int) (0 : Int) (0 : Int)) ((8192 : Int) + pickI at0 (8192 : Int)) ((1 : Int) % (32 : Int))) ((16384 : Int) + pickI sd (8192 : Int)) (1 / 32 : Int)), bts xx1.fst n n xx1.snd, A, row xb1 (26 : Nat) [iv 1, iv (pickI cd (7 : Int)), iv 0, iv sd, iv 0, Value.slice none (0 : Nat) (0 : Nat), Value.slice none (0 : Nat) (0 : Nat), Value.bool false], TyP te ta tc] (fun _ => by kernel_rfl) (@hz2 ) (by kernel_rfl) (by kernel_rfl) (by kernel_rfl) ?_)
      refine Xg.ops_op (by kernel_rfl) (Xg.opx_pure ((uv (xx1.snd.getD ((16384 : Int) + (↑i : Int)).toNat (0 : Int)))) rfl (fun _ => by kernel_rfl) ?_)
      refine Xg.ops_nil ?_
      refine Xg.at_seq ?_
      refine Xg.at_draw [19, 27] [(3, [0, 1, 2, 3], (RdIs (1 : Nat) (Value.slice xx1.fst n n) n (List.map (Value.int IntKind.u8) xx1.snd))), (4, [0, 1, 2, 3, 4], (RdIs (1 : Nat) (Value.slice xx1.fst n n) n (List.map (Value.int IntKind.u8) xx1.snd))), (13, [0, 1, 2, 3, 4, 5, 6, 7, 8, 9, 10, 11, 12, 13], (RdIs (1 : Nat) (Value.slice xx1.fst n n) n (List.map (Value.int IntKind.u8) xx1.snd))), (14, [0, 1, 2, 3, 4, 5, 6, 7, 8, 9, 10, 11, 12, 13, 14], (RdIs (1 : Nat) (Value.slice xx1.fst n n) n (List.map (Value.int IntKind.u8) xx1.snd))), (21, [0, 1, 2, 3, 4, 5, 6, 7, 8, 9, 10, 11, 12, 13, 14, 15, 16, 17, 18, 19, 20, 21], (RdIs (1 : Nat) (Value.slice xx1.fst n n) n (List.map (Value.int IntKind.u8) xx1.snd))), (22, [0, 1, 2, 3, 4, 5, 6, 7, 8, 9, 10, 11, 12, 13, 14, 15, 16, 17, 18, 19, 20, 21, 22], (RdIs (1 : Nat) (Value.slice xx1.fst n n) n (List.map (Value.int IntKind.u8) xx1.snd))), (32, [0, 1, 2, 3, 4, 5, 6, 7, 8, 9, 10, 11, 12, 13, 14, 15, 16, 17, 18, 19, 20, 21, 22, 23, 24, 25, 26, 27, 28, 29, 30, 31, 32], (RdIs (1 : Nat) (Value.slice xx1.fst n n) n (List.map (Value.int IntKind.u8) xx1.snd))), (33, [0, 1, 2, 3, 4, 5, 6, 7, 8, 9, 10, 11, 12, 13, 14, 15, 16, 17, 18, 19, 20, 21, 22, 23, 24, 25, 26, 27, 28, 29, 30, 31, 32, 33], (RdIs (1 : Nat) (Value.slice xx1.fst n n) n (List.map (Value.int IntKind.u8) xx1.snd)))] (by kernel_rfl) ?_
      refine Xg.any_pure ((uv (xx1.snd.getD i (0 : Int)))) 0 (by kernel_rfl) rfl (by kernel_rfl) (by kernel_rfl) (by kernel_rfl) (by kernel_rfl) rfl (fun _ => by kernel_rfl) ?_
      refine Xg.any_pure ((Value.slice xx1.fst n n)) 1 (by kernel_rfl) rfl (by kernel_rfl) (by kernel_rfl) (by kernel_rfl) (by kernel_rfl) rfl (fun _ => by kernel_rfl) ?_
      refine Xg.any_pure ((iv (↑i : Int))) 2 (by kernel_rfl) rfl (by kernel_rfl) (by kernel_rfl) (by kernel_rfl) (by kernel_rfl) rfl (fun _ => by kernel_rfl) ?_
      refine Xg.any_reads (.pointer (some (Addr.mk (Xg.blk xx1.fst) (offA xx1.fst + i) none))) 3 0 (by kernel_rfl) rfl (by kernel_rfl) (by kernel_rfl) (by kernel_rfl) (by kernel_rfl) rfl rfl (by kernel_rfl) (Xg.rd_now 4 (Xg.reads_own (E := ((5 : TypeId))) (sz := ((1 : Nat))) (n := n) (c := n) (a := xx1.fst) (vs := (List.map (Value.int IntKind.u8) xx1.snd))) (by kernel_rfl)) (Xg.run_ix_rd (elem := 5) (kd := .i64) (e := ((↑i : Int))) 1 i (offA xx1.fst + i) (by kernel_rfl) (by kernel_rfl) (by kernel_rfl) (by kernel_rfl) rfl (by omega) (by simp only [List.length_map]; omega) (by omega)) ?_
      refine Xg.any_reads (uv (xx1.snd.getD i (0 : Int))) 4 1 (by kernel_rfl) rfl (by kernel_rfl) (by kernel_rfl) (by kernel_rfl) (by kernel_rfl) rfl rfl (by kernel_rfl) (Xg.rd_now 4 (Xg.reads_own (E := ((5 : TypeId))) (sz := ((1 : Nat))) (n := n) (c := n) (a := xx1.fst) (vs := (List.map (Value.int IntKind.u8) xx1.snd))) (by kernel_rfl)) (Xg.run_load_rd (off0 := (offA xx1.fst + i)) i (by kernel_rfl) (by omega) (Xg.get_ints (by omega)) (by kernel_rfl)) ?_
      refine Xg.any_pure (.bool (decide (((xx1.snd.getD i (0 : Int)) : Int) = (xx1.snd.getD i (0 : Int))))) 5 (by kernel_rfl) rfl (by kernel_rfl) (by kernel_rfl) (by kernel_rfl) (by kernel_rfl) rfl (fun _ => by kernel_rfl) ?_
      refine Xg.any_pure ((Value.bool (decide (xx1.snd.getD i (0 : Int) = xx1.snd.getD i (0 : Int))))) 6 (by kernel_rfl) rfl (by kernel_rfl) (by kernel_rfl) (by kernel_rfl) (by kernel_rfl) rfl (fun _ => by kernel_rfl) ?_
      refine Xg.any_flag (j := 137) (c := (decide (xx1.snd.getD i (0 : Int) = xx1.snd.getD i (0 : Int)))) (by kernel_rfl) (fun _ => ?_) (fun xh3 => absurd (of_decide_eq_false xh3) (by omega))
      refine Xg.any_pure ((uv (xx1.snd.getD ((16384 : Int) + (↑i : Int)).toNat (0 : Int)))) 7 (by kernel_rfl) rfl (by kernel_rfl) (by kernel_rfl) (by kernel_rfl) (by kernel_rfl) rfl (fun _ => by kernel_rfl) ?_
      refine Xg.any_pure ((Value.slice xx1.fst n n)) 8 (by kernel_rfl) rfl (by kernel_rfl) (by kernel_rfl) (by kernel_rfl) (by kernel_rfl) rfl (fun _ => by kernel_rfl) ?_
      refine Xg.any_pure ((iv 1)) 9 (by kernel_rfl) rfl (by kernel_rfl) (by kernel_rfl) (by kernel_rfl) (by kernel_rfl) rfl (fun _ => by kernel_rfl) ?_
      refine Xg.any_pure ((iv 16384)) 10 (by kernel_rfl) rfl (by kernel_rfl) (by kernel_rfl) (by kernel_rfl) (by kernel_rfl) rfl (fun _ => by kernel_rfl) ?_
      refine Xg.any_pure ((iv (↑i : Int))) 11 (by kernel_rfl) rfl (by kernel_rfl) (by kernel_rfl) (by kernel_rfl) (by kernel_rfl) rfl (fun _ => by kernel_rfl) ?_
      refine Xg.any_int .i64 (IntKind.wrap .i64 (((16384 : Int) + (↑i : Int)))) 12 (by kernel_rfl) rfl (by kernel_rfl) (by kernel_rfl) (by kernel_rfl) (by kernel_rfl) rfl (fun _ => by kernel_rfl) (Xg.wrap_i64_in (by omega)) ?_
      refine Xg.any_reads (.pointer (some (Addr.mk (Xg.blk xx1.fst) (offA xx1.fst + ((16384 : Int) + (↑i : Int)).toNat) none))) 13 2 (by kernel_rfl) rfl (by kernel_rfl) (by kernel_rfl) (by kernel_rfl) (by kernel_rfl) rfl rfl (by kernel_rfl) (Xg.rd_now 4 (Xg.reads_own (E := ((5 : TypeId))) (sz := ((1 : Nat))) (n := n) (c := n) (a := xx1.fst) (vs := (List.map (Value.int IntKind.u8) xx1.snd))) (by kernel_rfl)) (Xg.run_ix_rd (elem := 5) (kd := .i64) (e := ((16384 : Int) + (↑i : Int))) 1 (((16384 : Int) + (↑i : Int)).toNat) (offA xx1.fst + ((16384 : Int) + (↑i : Int)).toNat) (by kernel_rfl) (by kernel_rfl) (by kernel_rfl) (by kernel_rfl) (by omega) (by omega) (by simp only [List.length_map]; omega) (by omega)) ?_
      refine Xg.any_reads (uv (xx1.snd.getD ((16384 : Int) + (↑i : Int)).toNat (0 : Int))) 14 3 (by kernel_rfl) rfl (by kernel_rfl) (by kernel_rfl) (by kernel_rfl) (by kernel_rfl) rfl rfl (by kernel_rfl) (Xg.rd_now 4 (Xg.reads_own (E := ((5 : TypeId))) (sz := ((1 : Nat))) (n := n) (c := n) (a := xx1.fst) (vs := (List.map (Value.int IntKind.u8) xx1.snd))) (by kernel_rfl)) (Xg.run_load_rd (off0 := (offA xx1.fst + ((16384 : Int) + (↑i : Int)).toNat)) (((16384 : Int) + (↑i : Int)).toNat) (by kernel_rfl) (by omega) (Xg.get_ints (by omega)) (by kernel_rfl)) ?_
      refine Xg.any_pure (.bool (decide (((xx1.snd.getD ((16384 : Int) + (↑i : Int)).toNat (0 : Int)) : Int) = (xx1.snd.getD ((16384 : Int) + (↑i : Int)).toNat (0 : Int))))) 15 (by kernel_rfl) rfl (by kernel_rfl) (by kernel_rfl) (by kernel_rfl) (by kernel_rfl) rfl (fun _ => by kernel_rfl) ?_
      refine Xg.any_flag (j := 146) (c := (decide (xx1.snd.getD ((16384 : Int) + (↑i : Int)).toNat (0 : Int) = xx1.snd.getD ((16384 : Int) + (↑i : Int)).toNat (0 : Int)))) (by kernel_rfl) (fun _ => ?_) (fun xh3 => absurd (of_decide_eq_false xh3) (by omega))
      refine Xg.any_pure ((Value.bool true)) 16 (by kernel_rfl) rfl (by kernel_rfl) (by kernel_rfl) (by kernel_rfl) (by kernel_rfl) rfl (fun _ => by kernel_rfl) ?_
      refine Xg.any_pure ((Value.bool true)) 17 (by kernel_rfl) rfl (by kernel_rfl) (by kernel_rfl) (by kernel_rfl) (by kernel_rfl) rfl (fun _ => by kernel_rfl) ?_
      refine Xg.any_pure ((pv xx2.fst 0)) 18 (by kernel_rfl) rfl (by kernel_rfl) (by kernel_rfl) (by kernel_rfl) (by kernel_rfl) rfl (fun _ => by kernel_rfl) ?_
      refine Xg.any_pure ((Value.slice xx1.fst n n)) 20 (by kernel_rfl) rfl (by kernel_rfl) (by kernel_rfl) (by kernel_rfl) (by kernel_rfl) rfl (fun _ => by kernel_rfl) ?_
      refine Xg.any_reads (.pointer (some (Addr.mk (Xg.blk xx1.fst) (offA xx1.fst + (16383 : Nat)) none))) 21 4 (by kernel_rfl) rfl (by kernel_rfl) (by kernel_rfl) (by kernel_rfl) (by kernel_rfl) rfl rfl (by kernel_rfl) (Xg.rd_now 4 (Xg.reads_own (E := ((5 : TypeId))) (sz := ((1 : Nat))) (n := n) (c := n) (a := xx1.fst) (vs := (List.map (Value.int IntKind.u8) xx1.snd))) (by kernel_rfl)) (Xg.run_ix_rd (elem := 5) (kd := .i64) (e := ((16383 : Int))) 1 ((16383 : Nat)) (offA xx1.fst + (16383 : Nat)) (by kernel_rfl) (by kernel_rfl) (by kernel_rfl) (by kernel_rfl) rfl (by omega) (by simp only [List.length_map]; omega) (by omega)) ?_
      refine Xg.any_reads (uv (xx1.snd.getD (16383 : Nat) (0 : Int))) 22 5 (by kernel_rfl) rfl (by kernel_rfl) (by kernel_rfl) (by kernel_rfl) (by kernel_rfl) rfl rfl (by kernel_rfl) (Xg.rd_now 4 (Xg.reads_own (E := ((5 : TypeId))) (sz := ((1 : Nat))) (n := n) (c := n) (a := xx1.fst) (vs := (List.map (Value.int IntKind.u8) xx1.snd))) (by kernel_rfl)) (Xg.run_load_rd (off0 := (offA xx1.fst + (16383 : Nat))) ((16383 : Nat)) (by kernel_rfl) (by omega) (Xg.get_ints (by omega)) (by kernel_rfl)) ?_
      refine Xg.any_each [19] (by kernel_rfl) rfl ⟨?_, trivial⟩
      refine Xg.comes_act rfl (by kernel_rfl) (by kernel_rfl) (Xg.opx_call1' [0, 1, 2, 3] [CR xx2.fst h xx2.snd.snd.fst n xx2.snd.snd.snd.fst xx2.snd.snd.snd.snd (0 : Nat) (0 : Nat) (V1 xx2.snd.fst), bts xx2.snd.snd.fst n xx2.snd.snd.snd.fst xx1.snd, bts xx2.snd.snd.snd.snd (0 : Nat) (0 : Nat) (List.replicate (0 : Nat) (0 : Int)), MR1 xx2.snd.fst (regW1 (regW1 (Rg.mk (0 : Int) (1 : Int) (0 : Int) (0 : Int) (0 : Int)) ((8192 : Int) + pickI at0 (8192 : Int)) ((1 : Int) % (32 : Int))) ((16384 : Int) + pickI sd (8192 : Int)) (1 / 32 : Int)), bts xx1.fst n n xx1.snd, A, row xb1 (26 : Nat) [iv 1, iv (pickI cd (7 : Int)), iv 0, iv sd, iv 0, Value.slice none (0 : Nat) (0 : Nat), Value.slice none (0 : Nat) (0 : Nat), Value.bool false], TyP te ta tc] (fun _ => by kernel_rfl) (@hz3 ) (by kernel_rfl) (by kernel_rfl) (by kernel_rfl) ?_)
      refine Xg.acts (Xg.owes_skip (by kernel_rfl) (Xg.owes_skip (by kernel_rfl) (Xg.owes_skip (by kernel_rfl) (Xg.owes_skip (by kernel_rfl) (Xg.owes_rd 4 (Xg.reads_own (E := ((5 : TypeId))) (sz := ((1 : Nat))) (n := n) (c := n) (a := xx1.fst) (vs := (List.map (Value.int IntKind.u8) xx1.snd))) (by kernel_rfl) (Xg.owes_rd 4 (Xg.reads_own (E := ((5 : TypeId))) (sz := ((1 : Nat))) (n := n) (c := n) (a := xx1.fst) (vs := (List.map (Value.int IntKind.u8) xx1.snd))) (by kernel_rfl) (Xg.owes_rd 4 (Xg.reads_own (E := ((5 : TypeId))) (sz := ((1 : Nat))) (n := n) (c := n) (a := xx1.fst) (vs := (List.map (Value.int IntKind.u8) xx1.snd))) (by kernel_rfl) (Xg.owes_rd 4 (Xg.reads_own (E := ((5 : TypeId))) (sz := ((1 : Nat))) (n := n) (c := n) (a := xx1.fst) (vs := (List.map (Value.int IntKind.u8) xx1.snd))) (by kernel_rfl) Xg.owes_nil)))))))) ?_
      refine Xg.any_pure (.bool (decide (((xx1.snd.getD (16383 : Nat) (0 : Int)) : Int) = (xx1.snd.getD (16383 : Nat) (0 : Int))))) 23 (by kernel_rfl) rfl (by kernel_rfl) (by kernel_rfl) (by kernel_rfl) (by kernel_rfl) rfl (fun _ => by kernel_rfl) ?_
      refine Xg.any_flag (j := 154) (c := (decide (xx1.snd.getD (16383 : Nat) (0 : Int) = xx1.snd.getD (16383 : Nat) (0 : Int)))) (by kernel_rfl) (fun _ => ?_) (fun xh3 => absurd (of_decide_eq_false xh3) (by omega))
      refine Xg.any_pure ((Value.bool true)) 24 (by kernel_rfl) rfl (by kernel_rfl) (by kernel_rfl) (by kernel_rfl) (by kernel_rfl) rfl (fun _ => by kernel_rfl) ?_
      refine Xg.any_pure ((Value.bool true)) 25 (by kernel_rfl) rfl (by kernel_rfl) (by kernel_rfl) (by kernel_rfl) (by kernel_rfl) rfl (fun _ => by kernel_rfl) ?_
      refine Xg.any_pure ((pv xx2.fst 0)) 26 (by kernel_rfl) rfl (by kernel_rfl) (by kernel_rfl) (by kernel_rfl) (by kernel_rfl) rfl (fun _ => by kernel_rfl) ?_
      refine Xg.any_pure ((Value.slice xx1.fst n n)) 28 (by kernel_rfl) rfl (by kernel_rfl) (by kernel_rfl) (by kernel_rfl) (by kernel_rfl) rfl (fun _ => by kernel_rfl) ?_
      refine Xg.any_pure ((iv 1)) 29 (by kernel_rfl) rfl (by kernel_rfl) (by kernel_rfl) (by kernel_rfl) (by kernel_rfl) rfl (fun _ => by kernel_rfl) ?_
      refine Xg.any_pure ((iv 16384)) 30 (by kernel_rfl) rfl (by kernel_rfl) (by kernel_rfl) (by kernel_rfl) (by kernel_rfl) rfl (fun _ => by kernel_rfl) ?_
      refine Xg.any_pure ((iv 32767)) 31 (by kernel_rfl) rfl (by kernel_rfl) (by kernel_rfl) (by kernel_rfl) (by kernel_rfl) rfl (fun _ => by kernel_rfl) ?_
      refine Xg.any_reads (.pointer (some (Addr.mk (Xg.blk xx1.fst) (offA xx1.fst + (32767 : Nat)) none))) 32 6 (by kernel_rfl) rfl (by kernel_rfl) (by kernel_rfl) (by kernel_rfl) (by kernel_rfl) rfl rfl (by kernel_rfl) (Xg.rd_now 4 (Xg.reads_own (E := ((5 : TypeId))) (sz := ((1 : Nat))) (n := n) (c := n) (a := xx1.fst) (vs := (List.map (Value.int IntKind.u8) xx1.snd))) (by kernel_rfl)) (Xg.run_ix_rd (elem := 5) (kd := .i64) (e := ((32767 : Int))) 1 ((32767 : Nat)) (offA xx1.fst + (32767 : Nat)) (by kernel_rfl) (by kernel_rfl) (by kernel_rfl) (by kernel_rfl) rfl (by omega) (by simp only [List.length_map]; omega) (by omega)) ?_
      refine Xg.any_reads (uv (xx1.snd.getD (32767 : Nat) (0 : Int))) 33 7 (by kernel_rfl) rfl (by kernel_rfl) (by kernel_rfl) (by kernel_rfl) (by kernel_rfl) rfl rfl (by kernel_rfl) (Xg.rd_now 4 (Xg.reads_own (E := ((5 : TypeId))) (sz := ((1 : Nat))) (n := n) (c := n) (a := xx1.fst) (vs := (List.map (Value.int IntKind.u8) xx1.snd))) (by kernel_rfl)) (Xg.run_load_rd (off0 := (offA xx1.fst + (32767 : Nat))) ((32767 : Nat)) (by kernel_rfl) (by omega) (Xg.get_ints (by omega)) (by kernel_rfl)) ?_
      refine Xg.any_each [27] (by kernel_rfl) rfl ⟨?_, trivial⟩
      refine Xg.comes_act rfl (by kernel_rfl) (by kernel_rfl) (Xg.opx_call1' [0, 1, 2, 3] [CR xx2.fst h xx2.snd.snd.fst n xx2.snd.snd.snd.fst xx2.snd.snd.snd.snd (0 : Nat) (0 : Nat) (V1 xx2.snd.fst), bts xx2.snd.snd.fst n xx2.snd.snd.snd.fst xx1.snd, bts xx2.snd.snd.snd.snd (0 : Nat) (0 : Nat) (List.replicate (0 : Nat) (0 : Int)), MR1 xx2.snd.fst (regW1 (regW1 (Rg.mk (0 : Int) (1 : Int) (0 : Int) (0 : Int) (0 : Int)) ((8192 : Int) + pickI at0 (8192 : Int)) ((1 : Int) % (32 : Int))) ((16384 : Int) + pickI sd (8192 : Int)) (1 / 32 : Int)), bts xx1.fst n n xx1.snd, A, row xb1 (26 : Nat) [iv 1, iv (pickI cd (7 : Int)), iv 0, iv sd, iv 0, Value.slice none (0 : Nat) (0 : Nat), Value.slice none (0 : Nat) (0 : Nat), Value.bool false], TyP te ta tc] (fun _ => by kernel_rfl) (@hz4 ) (by kernel_rfl) (by kernel_rfl) (by kernel_rfl) ?_)
      refine Xg.acts (Xg.owes_skip (by kernel_rfl) (Xg.owes_skip (by kernel_rfl) (Xg.owes_skip (by kernel_rfl) (Xg.owes_skip (by kernel_rfl) (Xg.owes_skip (by kernel_rfl) (Xg.owes_skip (by kernel_rfl) (Xg.owes_rd 4 (Xg.reads_own (E := ((5 : TypeId))) (sz := ((1 : Nat))) (n := n) (c := n) (a := xx1.fst) (vs := (List.map (Value.int IntKind.u8) xx1.snd))) (by kernel_rfl) (Xg.owes_rd 4 (Xg.reads_own (E := ((5 : TypeId))) (sz := ((1 : Nat))) (n := n) (c := n) (a := xx1.fst) (vs := (List.map (Value.int IntKind.u8) xx1.snd))) (by kernel_rfl) Xg.owes_nil)))))))) ?_
      refine Xg.any_pure (.bool (decide (((xx1.snd.getD (32767 : Nat) (0 : Int)) : Int) = (xx1.snd.getD (32767 : Nat) (0 : Int))))) 34 (by kernel_rfl) rfl (by kernel_rfl) (by kernel_rfl) (by kernel_rfl) (by kernel_rfl) rfl (fun _ => by kernel_rfl) ?_
      refine Xg.any_flag (j := 165) (c := (decide (xx1.snd.getD (32767 : Nat) (0 : Int) = xx1.snd.getD (32767 : Nat) (0 : Int)))) (by kernel_rfl) (fun _ => ?_) (fun xh3 => absurd (of_decide_eq_false xh3) (by omega))
      refine Xg.any_pure ((Value.bool true)) 35 (by kernel_rfl) rfl (by kernel_rfl) (by kernel_rfl) (by kernel_rfl) (by kernel_rfl) rfl (fun _ => by kernel_rfl) ?_
      refine Xg.any_pure ((Value.bool true)) 36 (by kernel_rfl) rfl (by kernel_rfl) (by kernel_rfl) (by kernel_rfl) (by kernel_rfl) rfl (fun _ => by kernel_rfl) ?_
      refine Xg.any_nil (by kernel_rfl) ?_
      refine Xg.at_ret_ps (v := (Value.bool true)) [5, 7] [A, TyP te ta tc] Go.Proofs.Tryd.func4 (fun _ => by kernel_rfl) (by kernel_rfl) (by kernel_rfl) ?_
      exact ⟨by kernel_rfl, by kernel_rfl⟩)
  · (focus
      refine Xg.ops_op (by kernel_rfl) (Xg.opx_callE' [0] (fun xx2 => [CR xx2.fst h xx2.snd.snd.fst n xx2.snd.snd.snd.fst xx2.snd.snd.snd.snd (0 : Nat) (0 : Nat) (V1 xx2.snd.fst), bts xx2.snd.snd.fst n xx2.snd.snd.snd.fst xx1.snd, bts xx2.snd.snd.snd.snd (0 : Nat) (0 : Nat) (List.replicate (0 : Nat) (0 : Int)), MR1 xx2.snd.fst rg0, bts xx1.fst n n xx1.snd, A, row xb1 (26 : Nat) [iv 1, iv (pickI cd (7 : Int)), iv 0, iv sd, iv 0, Value.slice none (0 : Nat) (0 : Nat), Value.slice none (0 : Nat) (0 : Nat), Value.bool false], TyP te ta tc]) (fun _ => by kernel_rfl) (@hnw ) (by kernel_rfl) (by kernel_rfl) (by kernel_rfl) fun xx2 xh2 => ?_)
      try dsimp only at xh2
      refine Xg.ops_op (by kernel_rfl) (Xg.opx_pure ((Value.tuple #[pv xx2.fst 0, iv 0])) rfl (fun _ => by kernel_rfl) ?_)
      refine Xg.ops_op (by kernel_rfl) (Xg.opx_pure ((pv xx2.fst 0)) rfl (fun _ => by kernel_rfl) ?_)
      refine Xg.ops_op (by kernel_rfl) (Xg.opx_pure ((iv 0)) rfl (fun _ => by kernel_rfl) ?_)
      refine Xg.ops_op (by kernel_rfl) (Xg.opx_pure ((pv xx2.fst 0)) rfl (fun _ => by kernel_rfl) ?_)
      refine Xg.ops_op (by kernel_rfl) (Xg.opx_pure ((iv 0)) rfl (fun _ => by kernel_rfl) ?_)
      refine Xg.ops_nil ?_
      refine Xg.at_seq ?_
      refine Xg.at_seq ?_
      refine Xg.at_region ?_
      refine Xg.ops_op (by kernel_rfl) (Xg.opx_pure ((pv xx2.fst 0)) rfl (fun _ => by kernel_rfl) ?_)
      refine Xg.ops_op (by kernel_rfl) (Xg.opx_pure ((Value.bool false)) rfl (fun _ => by kernel_rfl) ?_)
      refine Xg.ops_op (by kernel_rfl) (Xg.opx_pure ((Value.bool false)) rfl (fun _ => by kernel_rfl) ?_)
      refine Xg.ops_op (by kernel_rfl) (Xg.opx_pure ((iv 0)) rfl (fun _ => by kernel_rfl) ?_)
      refine Xg.ops_op (by kernel_rfl) (Xg.opx_pure ((Value.bool false)) rfl (fun _ => by kernel_rfl) ?_)
      refine Xg.ops_op (by kernel_rfl) (Xg.opx_pure ((Value.bool false)) rfl (fun _ => by kernel_rfl) ?_)
      refine Xg.ops_nil ?_
      refine Xg.at_false (t := false) (by kernel_rfl) rfl ?_
      refine Xg.at_skip ?_
      refine Xg.at_seq ?_
      refine Xg.at_region ?_
      refine Xg.ops_op (by kernel_rfl) (Xg.opx_pure ((iv (pickI cd (7 : Int)))) rfl (fun _ => by kernel_rfl) ?_)
      refine Xg.ops_op (by kernel_rfl) (Xg.opx_run (.int .i64 (IntKind.wrap .i64 (((2 : Int)) * 2 ^ min (Int.toNat (pickI cd (7 : Int))) (IntKind.bits .i64)))) rfl (fun _ => Xg.run_shl (k1 := .i64) (k2 := .i64) (m := ((2 : Int))) (e := (pickI cd (7 : Int))) (by kernel_rfl) (by kernel_rfl) (by omega)) ?_)
      refine Xg.ops_op (by kernel_rfl) (Xg.opx_pure ((iv (IntKind.i64.wrap ((2 : Int) * (2 : Int) ^ min (pickI cd (7 : Int)).toNat IntKind.i64.bits)))) rfl (fun _ => by kernel_rfl) ?_)
      refine Xg.ops_nil ?_
      refine Xg.at_seq ?_
      refine Xg.at_region ?_
      refine Xg.ops_op (by kernel_rfl) (Xg.opx_pure ((iv bk)) rfl (fun _ => by kernel_rfl) ?_)
      refine Xg.ops_op (by kernel_rfl) (Xg.opx_pure ((iv (IntKind.i64.wrap ((2 : Int) * (2 : Int) ^ min (pickI cd (7 : Int)).toNat IntKind.i64.bits)))) rfl (fun _ => by kernel_rfl) ?_)
      refine Xg.ops_op (by kernel_rfl) (Xg.opx_call1' [] [CR xx2.fst h xx2.snd.snd.fst n xx2.snd.snd.snd.fst xx2.snd.snd.snd.snd (0 : Nat) (0 : Nat) (V1 xx2.snd.fst), bts xx2.snd.snd.fst n xx2.snd.snd.snd.fst xx1.snd, bts xx2.snd.snd.snd.snd (0 : Nat) (0 : Nat) (List.replicate (0 : Nat) (0 : Int)), MR1 xx2.snd.fst rg0, bts xx1.fst n n xx1.snd, A, row xb1 (26 : Nat) [iv 1, iv (pickI cd (7 : Int)), iv 0, iv sd, iv 0, Value.slice none (0 : Nat) (0 : Nat), Value.slice none (0 : Nat) (0 : Nat), Value.bool false], TyP te ta tc] (fun _ => by kernel_rfl) (@hpb ) (by kernel_rfl) (by kernel_rfl) (by kernel_rfl) ?_)
      refine Xg.ops_op (by kernel_rfl) (Xg.opx_pure ((iv (↑kn : Int))) rfl (fun _ => by kernel_rfl) ?_)
      refine Xg.ops_nil ?_
      refine Xg.at_seq ?_
      refine Xg.at_seq ?_
      refine Xg.at_region ?_
      refine Xg.ops_op (by kernel_rfl) (Xg.opx_pure ((iv 1)) rfl (fun _ => by kernel_rfl) ?_)
      refine Xg.ops_nil ?_
      refine Xg.at_block ?_
      refine Xg.at_seq ?_
      refine Xg.at_region ?_
      refine Xg.ops_op (by kernel_rfl) (Xg.opx_pure ((Value.bool false)) rfl (fun _ => by kernel_rfl) ?_)
      refine Xg.ops_op (by kernel_rfl) (Xg.opx_pure ((Value.bool false)) rfl (fun _ => by kernel_rfl) ?_)
      refine Xg.ops_nil ?_
      refine Xg.at_false (t := false) (by kernel_rfl) rfl ?_
      refine Xg.at_seq ?_
      refine Xg.at_region ?_
      refine Xg.ops_op (by kernel_rfl) (Xg.opx_pure ((Value.bool true)) rfl (fun _ => by kernel_rfl) ?_)
      refine Xg.ops_op (by kernel_rfl) (Xg.opx_pure ((Value.bool true)) rfl (fun _ => by kernel_rfl) ?_)
      refine Xg.ops_nil ?_
      refine Xg.at_true (t := true) (by kernel_rfl) rfl ?_
      refine Xg.at_seq ?_
      refine Xg.at_seq ?_
      refine Xg.at_region ?_
      refine Xg.ops_op (by kernel_rfl) (Xg.opx_pure ((iv (↑kn : Int))) rfl (fun _ => by kernel_rfl) ?_)
      refine Xg.ops_op (by kernel_rfl) (Xg.opx_int .i64 (Int.tmod (((↑kn : Int))) (((32 : Int)))) rfl (fun _ => by kernel_rfl) (Xg.rem_mod _ _ (by omega)) ?_)
      refine Xg.ops_op (by kernel_rfl) (Xg.opx_pure (.bool (decide ((((↑kn : Int) % (32 : Int)) : Int) = ((0 : Int))))) rfl (fun _ => by kernel_rfl) ?_)
      refine Xg.ops_nil ?_
      refine Xg.at_false (t := decide (((↑kn : Int) % (32 : Int) = (0 : Int)))) (by kernel_rfl) (decide_eq_false (by omega)) ?_
      refine Xg.at_skip ?_
      refine Xg.at_seq ?_
      refine Xg.at_region ?_
      refine Xg.ops_op (by kernel_rfl) (Xg.opx_pure ((pv xx2.fst 0)) rfl (fun _ => by kernel_rfl) ?_)
      refine Xg.ops_op (by kernel_rfl) (Xg.opx_pure ((iv at0)) rfl (fun _ => by kernel_rfl) ?_))
    obtain ⟨hhigh, hlow⟩ := bank1 (pickI at0 8192) (pickI sd 8192) (kn : Int) hl8 hls ⟨by omega, by omega⟩ (by omega)
    have hrok : (regW1 (regW1 (⟨0, 1, 0, 0, 0⟩ : Rg) (8192 + pickI at0 8192) ((kn : Int) % 32)) (16384 + pickI sd 8192) ((kn : Int) / 32)).Ok := regW1_ok (regW1_ok (show (⟨0, 1, 0, 0, 0⟩ : Rg).Ok from ⟨by decide, by decide, by decide, by decide, by decide⟩) _ _ ⟨by omega, by omega⟩) _ _ ⟨by omega, by omega⟩
    have hw1 := writeR1_d xx2.1 xx2.2.1 h (⟨0, 1, 0, 0, 0⟩ : Rg) xx2.2.2.1 n xx2.2.2.2.1 xx2.2.2.2.2 0 0 xx1.2 (List.replicate 0 0)
    have hw2 := writeR1_d xx2.1 xx2.2.1 h (regW1 (⟨0, 1, 0, 0, 0⟩ : Rg) (8192 + pickI at0 8192) ((kn : Int) % 32)) xx2.2.2.1 n xx2.2.2.2.1 xx2.2.2.2.2 0 0 xx1.2 (List.replicate 0 0)
    have hkb : ((kn : Nat) : Int) < h.bk := by rw [hbk2]; omega
    have hz1 := read1_d xx2.1 xx2.2.1 h (regW1 (regW1 (⟨0, 1, 0, 0, 0⟩ : Rg) (8192 + pickI at0 8192) ((kn : Int) % 32)) (16384 + pickI sd 8192) ((kn : Int) / 32)) xx2.2.2.1 n xx2.2.2.2.1 xx2.2.2.2.2 0 0 xx1.2 (List.replicate 0 0) (i : Int) ⟨by omega, by omega⟩ hrok (by rw [hbk2]; omega) xh1.l (by rw [hbk2]; omega) xh2 (List.length_replicate) (Nat.le_refl _) (isB_rep _) hmp (Or.inl rfl)
    rw [read_low 1 (regW1 (regW1 (⟨0, 1, 0, 0, 0⟩ : Rg) (8192 + pickI at0 8192) ((kn : Int) % 32)) (16384 + pickI sd 8192) ((kn : Int) / 32)) h.bk xx1.2 _ i hlow (by omega)] at hz1
    have hz2 := read1_d xx2.1 xx2.2.1 h (regW1 (regW1 (⟨0, 1, 0, 0, 0⟩ : Rg) (8192 + pickI at0 8192) ((kn : Int) % 32)) (16384 + pickI sd 8192) ((kn : Int) / 32)) xx2.2.2.1 n xx2.2.2.2.1 xx2.2.2.2.2 0 0 xx1.2 (List.replicate 0 0) (16384 + (i : Int)) ⟨by omega, by omega⟩ hrok (by rw [hbk2]; omega) xh1.l (by rw [hbk2]; omega) xh2 (List.length_replicate) (Nat.le_refl _) (isB_rep _) hmp (Or.inl rfl)
    rw [read_high 1 (regW1 (regW1 (⟨0, 1, 0, 0, 0⟩ : Rg) (8192 + pickI at0 8192) ((kn : Int) % 32)) (16384 + pickI sd 8192) ((kn : Int) / 32)) h.bk xx1.2 _ kn i hhigh hkb (by omega)] at hz2
    have hz3 := read1_d xx2.1 xx2.2.1 h (regW1 (regW1 (⟨0, 1, 0, 0, 0⟩ : Rg) (8192 + pickI at0 8192) ((kn : Int) % 32)) (16384 + pickI sd 8192) ((kn : Int) / 32)) xx2.2.2.1 n xx2.2.2.2.1 xx2.2.2.2.2 0 0 xx1.2 (List.replicate 0 0) 16383 ⟨by decide, by decide⟩ hrok (by rw [hbk2]; omega) xh1.l (by rw [hbk2]; omega) xh2 (List.length_replicate) (Nat.le_refl _) (isB_rep _) hmp (Or.inl rfl)
    rw [read_low' 1 (regW1 (regW1 (⟨0, 1, 0, 0, 0⟩ : Rg) (8192 + pickI at0 8192) ((kn : Int) % 32)) (16384 + pickI sd 8192) ((kn : Int) / 32)) h.bk xx1.2 _ hlow] at hz3
    have hz4 := read1_d xx2.1 xx2.2.1 h (regW1 (regW1 (⟨0, 1, 0, 0, 0⟩ : Rg) (8192 + pickI at0 8192) ((kn : Int) % 32)) (16384 + pickI sd 8192) ((kn : Int) / 32)) xx2.2.2.1 n xx2.2.2.2.1 xx2.2.2.2.2 0 0 xx1.2 (List.replicate 0 0) 32767 ⟨by decide, by decide⟩ hrok (by rw [hbk2]; omega) xh1.l (by rw [hbk2]; omega) xh2 (List.length_replicate) (Nat.le_refl _) (isB_rep _) hmp (Or.inl rfl)
    rw [read_high' 1 (regW1 (regW1 (⟨0, 1, 0, 0, 0⟩ : Rg) (8192 + pickI at0 8192) ((kn : Int) % 32)) (16384 + pickI sd 8192) ((kn : Int) / 32)) h.bk xx1.2 _ kn hhigh hkb] at hz4
    have hg1 : xx1.2.getD ((16384 : Int) * (kn : Int) + (i : Int)).toNat 0 = xx1.2.getD (16384 * kn + i) 0 := by first | rfl | (congr 1; omega)
    have hg2 : xx1.2.getD ((16384 : Int) * (kn : Int) + 16383).toNat 0 = xx1.2.getD (16384 * kn + 16383) 0 := by first | rfl | (congr 1; omega)
    rw [← hg1] at hz2
    rw [← hg2] at hz4
    (focus
      refine Xg.ops_op (by kernel_rfl) (Xg.opx_call1' [] [CR xx2.fst h xx2.snd.snd.fst n xx2.snd.snd.snd.fst xx2.snd.snd.snd.snd (0 : Nat) (0 : Nat) (V1 xx2.snd.fst), bts xx2.snd.snd.fst n xx2.snd.snd.snd.fst xx1.snd, bts xx2.snd.snd.snd.snd (0 : Nat) (0 : Nat) (List.replicate (0 : Nat) (0 : Int)), MR1 xx2.snd.fst rg0, bts xx1.fst n n xx1.snd, A, row xb1 (26 : Nat) [iv 1, iv (pickI cd (7 : Int)), iv 0, iv sd, iv 0, Value.slice none (0 : Nat) (0 : Nat), Value.slice none (0 : Nat) (0 : Nat), Value.bool false], TyP te ta tc] (fun _ => by kernel_rfl) (@hp8 ) (by kernel_rfl) (by kernel_rfl) (by kernel_rfl) ?_)
      refine Xg.ops_op (by kernel_rfl) (Xg.opx_int .i64 (IntKind.wrap .i64 (((8192 : Int) + pickI at0 (8192 : Int)))) rfl (fun _ => by kernel_rfl) (Xg.wrap_i64_in (by omega)) ?_)
      refine Xg.ops_op (by kernel_rfl) (Xg.opx_pure ((iv (↑kn : Int))) rfl (fun _ => by kernel_rfl) ?_)
      refine Xg.ops_op (by kernel_rfl) (Xg.opx_int .i64 (Int.tmod (((↑kn : Int))) (((32 : Int)))) rfl (fun _ => by kernel_rfl) (Xg.rem_mod _ _ (by omega)) ?_)
      refine Xg.ops_op (by kernel_rfl) (Xg.opx_int .u8 (IntKind.wrap .u8 (((↑kn : Int) % (32 : Int)))) rfl (fun _ => by kernel_rfl) (Xg.wrap_u8_in (by omega)) ?_)
      refine Xg.ops_op (by kernel_rfl) (Xg.opx_call1' [0, 1, 2, 3] [CR xx2.fst h xx2.snd.snd.fst n xx2.snd.snd.snd.fst xx2.snd.snd.snd.snd (0 : Nat) (0 : Nat) (V1 xx2.snd.fst), bts xx2.snd.snd.fst n xx2.snd.snd.snd.fst xx1.snd, bts xx2.snd.snd.snd.snd (0 : Nat) (0 : Nat) (List.replicate (0 : Nat) (0 : Int)), MR1 xx2.snd.fst (regW1 (Rg.mk (0 : Int) (1 : Int) (0 : Int) (0 : Int) (0 : Int)) ((8192 : Int) + pickI at0 (8192 : Int)) ((↑kn : Int) % (32 : Int))), bts xx1.fst n n xx1.snd, A, row xb1 (26 : Nat) [iv 1, iv (pickI cd (7 : Int)), iv 0, iv sd, iv 0, Value.slice none (0 : Nat) (0 : Nat), Value.slice none (0 : Nat) (0 : Nat), Value.bool false], TyP te ta tc] (fun _ => by kernel_rfl) (@hw1 (((8192 : Int) + pickI at0 (8192 : Int))) (((↑kn : Int) % (32 : Int))) (by omega) (by omega)) (by kernel_rfl) (by kernel_rfl) (by kernel_rfl) ?_)
      refine Xg.ops_nil ?_
      refine Xg.at_region ?_
      refine Xg.ops_op (by kernel_rfl) (Xg.opx_pure ((pv xx2.fst 0)) rfl (fun _ => by kernel_rfl) ?_)
      refine Xg.ops_op (by kernel_rfl) (Xg.opx_pure ((iv sd)) rfl (fun _ => by kernel_rfl) ?_)
      refine Xg.ops_op (by kernel_rfl) (Xg.opx_call1' [] [CR xx2.fst h xx2.snd.snd.fst n xx2.snd.snd.snd.fst xx2.snd.snd.snd.snd (0 : Nat) (0 : Nat) (V1 xx2.snd.fst), bts xx2.snd.snd.fst n xx2.snd.snd.snd.fst xx1.snd, bts xx2.snd.snd.snd.snd (0 : Nat) (0 : Nat) (List.replicate (0 : Nat) (0 : Int)), MR1 xx2.snd.fst (regW1 (Rg.mk (0 : Int) (1 : Int) (0 : Int) (0 : Int) (0 : Int)) ((8192 : Int) + pickI at0 (8192 : Int)) ((↑kn : Int) % (32 : Int))), bts xx1.fst n n xx1.snd, A, row xb1 (26 : Nat) [iv 1, iv (pickI cd (7 : Int)), iv 0, iv sd, iv 0, Value.slice none (0 : Nat) (0 : Nat), Value.slice none (0 : Nat) (0 : Nat), Value.bool false], TyP te ta tc] (fun _ => by kernel_rfl) (@hps ) (by kernel_rfl) (by kernel_rfl) (by kernel_rfl) ?_)
      refine Xg.ops_op (by kernel_rfl) (Xg.opx_int .i64 (IntKind.wrap .i64 (((16384 : Int) + pickI sd (8192 : Int)))) rfl (fun _ => by kernel_rfl) (Xg.wrap_i64_in (by omega)) ?_)
      refine Xg.ops_op (by kernel_rfl) (Xg.opx_pure ((iv (↑kn : Int))) rfl (fun _ => by kernel_rfl) ?_)
      refine Xg.ops_op (by kernel_rfl) (Xg.opx_int .i64 (IntKind.wrap .i64 (Int.tdiv (((↑kn : Int))) (((32 : Int))))) rfl (fun _ => by kernel_rfl) (Xg.wrap_i64_quo (by omega)) ?_)
      refine Xg.ops_op (by kernel_rfl) (Xg.opx_int .u8 (IntKind.wrap .u8 (((↑kn : Int) / (32 : Int)))) rfl (fun _ => by kernel_rfl) (Xg.wrap_u8_in (by omega)) ?_)
      refine Xg.ops_op (by kernel_rfl) (Xg.opx_call1' [0, 1, 2, 3] [CR xx2.fst h xx2.snd.snd.fst n xx2.snd.snd.snd.fst xx2.snd.snd.snd.snd (0 : Nat) (0 : Nat) (V1 xx2.snd.fst), bts xx2.snd.snd.fst n xx2.snd.snd.snd.fst xx1.snd, bts xx2.snd.snd.snd.snd (0 : Nat) (0 : Nat) (List.replicate (0 : Nat) (0 : Int)), MR1 xx2.snd.fst (regW1 (regW1 (Rg.mk (0 : Int) (1 : Int) (0 : Int) (0 : Int) (0 : Int)) ((8192 : Int) + pickI at0 (8192 : Int)) ((↑kn : Int) % (32 : Int))) ((16384 : Int) + pickI sd (8192 : Int)) ((↑kn : Int) / (32 : Int))), bts xx1.fst n n xx1.snd, A, row xb1 (26 : Nat) [iv 1, iv (pickI cd (7 : Int)), iv 0, iv sd, iv 0, Value.slice none (0 : Nat) (0 : Nat), Value.slice none (0 : Nat) (0 : Nat), Value.bool false], TyP te ta tc] (fun _ => by kernel_rfl) (@hw2 (((16384 : Int) + pickI sd (8192 : Int))) (((↑kn : Int) / (32 : Int))) (by omega) (by omega)) (by kernel_rfl) (by kernel_rfl) (by kernel_rfl) ?_)
      refine Xg.ops_nil ?_
      refine Xg.at_inBlock ?_
      refine Xg.at_seq ?_
      refine Xg.at_region ?_
      refine Xg.ops_op (by kernel_rfl) (Xg.opx_pure ((iv at0)) rfl (fun _ => by kernel_rfl) ?_)
      refine Xg.ops_op (by kernel_rfl) (Xg.opx_call1' [] [CR xx2.fst h xx2.snd.snd.fst n xx2.snd.snd.snd.fst xx2.snd.snd.snd.snd (0 : Nat) (0 : Nat) (V1 xx2.snd.fst), bts xx2.snd.snd.fst n xx2.snd.snd.snd.fst xx1.snd, bts xx2.snd.snd.snd.snd (0 : Nat) (0 : Nat) (List.replicate (0 : Nat) (0 : Int)), MR1 xx2.snd.fst (regW1 (regW1 (Rg.mk (0 : Int) (1 : Int) (0 : Int) (0 : Int) (0 : Int)) ((8192 : Int) + pickI at0 (8192 : Int)) ((↑kn : Int) % (32 : Int))) ((16384 : Int) + pickI sd (8192 : Int)) ((↑kn : Int) / (32 : Int))), bts xx1.fst n n xx1.snd, A, row xb1 (26 : Nat) [iv 1, iv (pickI cd (7 : Int)), iv 0, iv sd, iv 0, Value.slice none (0 : Nat) (0 : Nat), Value.slice none (0 : Nat) (0 : Nat), Value.bool false], TyP te ta tc] (fun _ => by kernel_rfl) (@hpa ) (by kernel_rfl) (by kernel_rfl) (by kernel_rfl) ?_)
      refine Xg.ops_op (by kernel_rfl) (Xg.opx_pure ((iv (↑i : Int))) rfl (fun _ => by kernel_rfl) ?_)
      refine Xg.ops_nil ?_
      refine Xg.at_seq ?_
      refine Xg.at_region ?_
      refine Xg.ops_op (by kernel_rfl) (Xg.opx_pure ((pv xx2.fst 0)) rfl (fun _ => by kernel_rfl) ?_)
      refine Xg.ops_op (by kernel_rfl) (Xg.opx_pure ((iv (↑i : Int))) rfl (fun _ => by kernel_rfl) ?_)
      refine Xg.ops_op (by kernel_rfl) (Xg.opx_call1' [0, 1, 2, 3] [CR xx2.fst h xx2.snd.snd.fst n xx2.snd.snd.snd.fst xx2.snd.snd.snd.snd (0 : Nat) (0 : Nat) (V1 xx2.snd.fst), bts xx2.snd.snd.fst n xx2.snd.snd.snd.fst xx1.snd, bts xx2.snd.snd.snd.snd (0 : Nat) (0 : Nat) (List.replicate (0 : Nat) (0 : Int)), MR1 xx2.snd.fst (regW1 (regW1 (Rg.mk (0 : Int) (1 : Int) (0 : Int) (0 : Int) (0 : Int)) ((8192 : Int) + pickI at0 (8192 : Int)) ((↑kn : Int) % (32 : Int))) ((16384 : Int) + pickI sd (8192 : Int)) ((↑kn : Int) / (32 : Int))), bts xx1.fst n n xx1.snd, A, row xb1 (26 : Nat) [iv 1, iv (pickI cd (7 : Int)), iv 0, iv sd, iv 0, Value.slice none (0 : Nat) (0 : Nat), Value.slice none (0 : Nat) (0 : Nat), Value.bool false], TyP te ta tc] (fun _ => by kernel_rfl) (@hz1 ) (by kernel_rfl) (by kernel_rfl) (by kernel_rfl) ?_)
      refine Xg.ops_op (by kernel_rfl) (Xg.opx_pure ((uv (xx1.snd.getD i (0 : Int)))) rfl (fun _ => by kernel_rfl) ?_)
      refine Xg.ops_nil ?_
      refine Xg.at_seq ?_
      refine Xg.at_region ?_
      refine Xg.ops_op (by kernel_rfl) (Xg.opx_pure ((pv xx2.fst 0)) rfl (fun _ => by kernel_rfl) ?_)
      refine Xg.ops_op (by kernel_rfl) (Xg.opx_pure ((iv (↑i : Int))) rfl (fun _ => by kernel_rfl) ?_)
      refine Xg.ops_op (by kernel_rfl) (Xg.opx_int .i64 (IntKind.wrap .i64 (((16384 : Int) + (↑i : Int)))) rfl (fun _ => by kernel_rfl) (Xg.wrap_i64_in (by omega)) ?_)
      refine Xg.ops_op (by kernel_rfl) (Xg.opx_call1' [0, 1, 2, 3] [CR xx2.fst h xx2.snd.snd.fst n xx2.snd.snd.snd.fst xx2.snd.snd.snd.snd (0 : Nat) (0 : Nat) (V1 xx2.snd.fst), bts xx2.snd.snd.fst n xx2.snd.snd.snd.fst xx1.snd, bts xx2.snd.snd.snd.snd (0 : Nat) (0 : Nat) (List.replicate (0 : Nat) (0 : Int)), MR1 xx2.snd.fst (regW1 (regW1 (Rg.mk (0 : Int) (1 : Int) (0 : Int) (0 : Int) (0 : Int)) ((8192 : Int) + pickI at0 (8192 : Int)) ((↑kn : Int) % (32 : Int))) ((16384 : Int) + pickI sd (8192 : Int)) ((↑kn : Int) / (32 : Int))), bts xx1.fst n n xx1.snd, A, row xb1 (26 : Nat) [iv 1, iv (pickI cd (7 : Int)), iv 0, iv sd, iv 0, Value.slice none (0 : Nat) (0 : Nat), Value.slice none (0 : Nat) (0 : Nat), Value.bool false], TyP te ta tc] (fun _ => by kernel_rfl) (@hz2 ) (by kernel_rfl) (by kernel_rfl) (by kernel_rfl) ?_)
      refine Xg.ops_op (by kernel_rfl) (Xg.opx_pure ((uv (xx1.snd.getD ((16384 : Int) * (↑kn : Int) + (↑i : Int)).toNat (0 : Int)))) rfl (fun _ => by kernel_rfl) ?_)
      refine Xg.ops_nil ?_
      refine Xg.at_seq ?_
      refine Xg.at_draw [19, 27] [(3, [0, 1, 2, 3], (RdIs (1 : Nat) (Value.slice xx1.fst n n) n (List.map (Value.int IntKind.u8) xx1.snd))), (4, [0, 1, 2, 3, 4], (RdIs (1 : Nat) (Value.slice xx1.fst n n) n (List.map (Value.int IntKind.u8) xx1.snd))), (13, [0, 1, 2, 3, 4, 5, 6, 7, 8, 9, 10, 11, 12, 13], (RdIs (1 : Nat) (Value.slice xx1.fst n n) n (List.map (Value.int IntKind.u8) xx1.snd))), (14, [0, 1, 2, 3, 4, 5, 6, 7, 8, 9, 10, 11, 12, 13, 14], (RdIs (1 : Nat) (Value.slice xx1.fst n n) n (List.map (Value.int IntKind.u8) xx1.snd))), (21, [0, 1, 2, 3, 4, 5, 6, 7, 8, 9, 10, 11, 12, 13, 14, 15, 16, 17, 18, 19, 20, 21], (RdIs (1 : Nat) (Value.slice xx1.fst n n) n (List.map (Value.int IntKind.u8) xx1.snd))), (22, [0, 1, 2, 3, 4, 5, 6, 7, 8, 9, 10, 11, 12, 13, 14, 15, 16, 17, 18, 19, 20, 21, 22], (RdIs (1 : Nat) (Value.slice xx1.fst n n) n (List.map (Value.int IntKind.u8) xx1.snd))), (32, [0, 1, 2, 3, 4, 5, 6, 7, 8, 9, 10, 11, 12, 13, 14, 15, 16, 17, 18, 19, 20, 21, 22, 23, 24, 25, 26, 27, 28, 29, 30, 31, 32], (RdIs (1 : Nat) (Value.slice xx1.fst n n) n (List.map (Value.int IntKind.u8) xx1.snd))), (33, [0, 1, 2, 3, 4, 5, 6, 7, 8, 9, 10, 11, 12, 13, 14, 15, 16, 17, 18, 19, 20, 21, 22, 23, 24, 25, 26, 27, 28, 29, 30, 31, 32, 33], (RdIs (1 : Nat) (Value.slice xx1.fst n n) n (List.map (Value.int IntKind.u8) xx1.snd)))] (by kernel_rfl) ?_
      refine Xg.any_pure ((uv (xx1.snd.getD i (0 : Int)))) 0 (by kernel_rfl) rfl (by kernel_rfl) (by kernel_rfl) (by kernel_rfl) (by kernel_rfl) rfl (fun _ => by kernel_rfl) ?_
      refine Xg.any_pure ((Value.slice xx1.fst n n)) 1 (by kernel_rfl) rfl (by kernel_rfl) (by kernel_rfl) (by kernel_rfl) (by kernel_rfl) rfl (fun _ => by kernel_rfl) ?_
      refine Xg.any_pure ((iv (↑i : Int))) 2 (by kernel_rfl) rfl (by kernel_rfl) (by kernel_rfl) (by kernel_rfl) (by kernel_rfl) rfl (fun _ => by kernel_rfl) ?_
      refine Xg.any_reads (.pointer (some (Addr.mk (Xg.blk xx1.fst) (offA xx1.fst + i) none))) 3 0 (by kernel_rfl) rfl (by kernel_rfl) (by kernel_rfl) (by kernel_rfl) (by kernel_rfl) rfl rfl (by kernel_rfl) (Xg.rd_now 4 (Xg.reads_own (E := ((5 : TypeId))) (sz := ((1 : Nat))) (n := n) (c := n) (a := xx1.fst) (vs := (List.map (Value.int IntKind.u8) xx1.snd))) (by kernel_rfl)) (Xg.run_ix_rd (elem := 5) (kd := .i64) (e := ((↑i : Int))) 1 i (offA xx1.fst + i) (by kernel_rfl) (by kernel_rfl) (by kernel_rfl) (by kernel_rfl) rfl (by omega) (by simp only [List.length_map]; omega) (by omega)) ?_
      refine Xg.any_reads (uv (xx1.snd.getD i (0 : Int))) 4 1 (by kernel_rfl) rfl (by kernel_rfl) (by kernel_rfl) (by kernel_rfl) (by kernel_rfl) rfl rfl (by kernel_rfl) (Xg.rd_now 4 (Xg.reads_own (E := ((5 : TypeId))) (sz := ((1 : Nat))) (n := n) (c := n) (a := xx1.fst) (vs := (List.map (Value.int IntKind.u8) xx1.snd))) (by kernel_rfl)) (Xg.run_load_rd (off0 := (offA xx1.fst + i)) i (by kernel_rfl) (by omega) (Xg.get_ints (by omega)) (by kernel_rfl)) ?_
      refine Xg.any_pure (.bool (decide (((xx1.snd.getD i (0 : Int)) : Int) = (xx1.snd.getD i (0 : Int))))) 5 (by kernel_rfl) rfl (by kernel_rfl) (by kernel_rfl) (by kernel_rfl) (by kernel_rfl) rfl (fun _ => by kernel_rfl) ?_
      refine Xg.any_pure ((Value.bool (decide (xx1.snd.getD i (0 : Int) = xx1.snd.getD i (0 : Int))))) 6 (by kernel_rfl) rfl (by kernel_rfl) (by kernel_rfl) (by kernel_rfl) (by kernel_rfl) rfl (fun _ => by kernel_rfl) ?_
      refine Xg.any_flag (j := 137) (c := (decide (xx1.snd.getD i (0 : Int) = xx1.snd.getD i (0 : Int)))) (by kernel_rfl) (fun _ => ?_) (fun xh3 => absurd (of_decide_eq_false xh3) (by omega))
      refine Xg.any_pure ((uv (xx1.snd.getD ((16384 : Int) * (↑kn : Int) + (↑i : Int)).toNat (0 : Int)))) 7 (by kernel_rfl) rfl (by kernel_rfl) (by kernel_rfl) (by kernel_rfl) (by kernel_rfl) rfl (fun _ => by kernel_rfl) ?_
      refine Xg.any_pure ((Value.slice xx1.fst n n)) 8 (by kernel_rfl) rfl (by kernel_rfl) (by kernel_rfl) (by kernel_rfl) (by kernel_rfl) rfl (fun _ => by kernel_rfl) ?_
      refine Xg.any_pure ((iv (↑kn : Int))) 9 (by kernel_rfl) rfl (by kernel_rfl) (by kernel_rfl) (by kernel_rfl) (by kernel_rfl) rfl (fun _ => by kernel_rfl) ?_
      refine Xg.any_int .i64 (IntKind.wrap .i64 (((16384 : Int) * (↑kn : Int)))) 10 (by kernel_rfl) rfl (by kernel_rfl) (by kernel_rfl) (by kernel_rfl) (by kernel_rfl) rfl (fun _ => by kernel_rfl) (Xg.wrap_i64_in (by omega)) ?_
      refine Xg.any_pure ((iv (↑i : Int))) 11 (by kernel_rfl) rfl (by kernel_rfl) (by kernel_rfl) (by kernel_rfl) (by kernel_rfl) rfl (fun _ => by kernel_rfl) ?_
      refine Xg.any_int .i64 (IntKind.wrap .i64 (((16384 : Int) * (↑kn : Int) + (↑i : Int)))) 12 (by kernel_rfl) rfl (by kernel_rfl) (by kernel_rfl) (by kernel_rfl) (by kernel_rfl) rfl (fun _ => by kernel_rfl) (Xg.wrap_i64_in (by omega)) ?_
      refine Xg.any_reads (.pointer (some (Addr.mk (Xg.blk xx1.fst) (offA xx1.fst + ((16384 : Int) * (↑kn : Int) + (↑i : Int)).toNat) none))) 13 2 (by kernel_rfl) rfl (by kernel_rfl) (by kernel_rfl) (by kernel_rfl) (by kernel_rfl) rfl rfl (by kernel_rfl) (Xg.rd_now 4 (Xg.reads_own (E := ((5 : TypeId))) (sz := ((1 : Nat))) (n := n) (c := n) (a := xx1.fst) (vs := (List.map (Value.int IntKind.u8) xx1.snd))) (by kernel_rfl)) (Xg.run_ix_rd (elem := 5) (kd := .i64) (e := ((16384 : Int) * (↑kn : Int) + (↑i : Int))) 1 (((16384 : Int) * (↑kn : Int) + (↑i : Int)).toNat) (offA xx1.fst + ((16384 : Int) * (↑kn : Int) + (↑i : Int)).toNat) (by kernel_rfl) (by kernel_rfl) (by kernel_rfl) (by kernel_rfl) (by omega) (by omega) (by simp only [List.length_map]; omega) (by omega)) ?_
      refine Xg.any_reads (uv (xx1.snd.getD ((16384 : Int) * (↑kn : Int) + (↑i : Int)).toNat (0 : Int))) 14 3 (by kernel_rfl) rfl (by kernel_rfl) (by kernel_rfl) (by kernel_rfl) (by kernel_rfl) rfl rfl (by kernel_rfl) (Xg.rd_now 4 (Xg.reads_own (E := ((5 : TypeId))) (sz := ((1 : Nat))) (n := n) (c := n) (a := xx1.fst) (vs := (List.map (Value.int IntKind.u8) xx1.snd))) (by kernel_rfl)) (Xg.run_load_rd (off0 := (offA xx1.fst + ((16384 : Int) * (↑kn : Int) + (↑i : Int)).toNat)) (((16384 : Int) * (↑kn : Int) + (↑i : Int)).toNat) (by kernel_rfl) (by omega) (Xg.get_ints (by omega)) (by kernel_rfl)) ?_
      refine Xg.any_pure (.bool (decide (((xx1.snd.getD ((16384 : Int) * (↑kn : Int) + (↑i : Int)).toNat (0 : Int)) : Int) = (xx1.snd.getD ((16384 : Int) * (↑kn : Int) + (↑i : Int)).toNat (0 : Int))))) 15 (by kernel_rfl) rfl (by kernel_rfl) (by kernel_rfl) (by kernel_rfl) (by kernel_rfl) rfl (fun _ => by kernel_rfl) ?_
      refine Xg.any_flag (j := 146) (c := (decide (xx1.snd.getD ((16384 : Int) * (↑kn : Int) + (↑i : Int)).toNat (0 : Int) = xx1.snd.getD ((16384 : Int) * (↑kn : Int) + (↑i : Int)).toNat (0 : Int)))) (by kernel_rfl) (fun _ => ?_) (fun xh3 => absurd (of_decide_eq_false xh3) (by omega))
      refine Xg.any_pure ((Value.bool true)) 16 (by kernel_rfl) rfl (by kernel_rfl) (by kernel_rfl) (by kernel_rfl) (by kernel_rfl) rfl (fun _ => by kernel_rfl) ?_
      refine Xg.any_pure ((Value.bool true)) 17 (by kernel_rfl) rfl (by kernel_rfl) (by kernel_rfl) (by kernel_rfl) (by kernel_rfl) rfl (fun _ => by kernel_rfl) ?_
      refine Xg.any_pure ((pv xx2.fst 0)) 18 (by kernel_rfl) rfl (by kernel_rfl) (by kernel_rfl) (by kernel_rfl) (by kernel_rfl) rfl (fun _ => by kernel_rfl) ?_
      refine Xg.any_pure ((Value.slice xx1.fst n n)) 20 (by kernel_rfl) rfl (by kernel_rfl) (by kernel_rfl) (by kernel_rfl) (by kernel_rfl) rfl (fun _ => by kernel_rfl) ?_
      refine Xg.any_reads (.pointer (some (Addr.mk (Xg.blk xx1.fst) (offA xx1.fst + (16383 : Nat)) none))) 21 4 (by kernel_rfl) rfl (by kernel_rfl) (by kernel_rfl) (by kernel_rfl) (by kernel_rfl) rfl rfl (by kernel_rfl) (Xg.rd_now 4 (Xg.reads_own (E := ((5 : TypeId))) (sz := ((1 : Nat))) (n := n) (c := n) (a := xx1.fst) (vs := (List.map (Value.int IntKind.u8) xx1.snd))) (by kernel_rfl)) (Xg.run_ix_rd (elem := 5) (kd := .i64) (e := ((16383 : Int))) 1 ((16383 : Nat)) (offA xx1.fst + (16383 : Nat)) (by kernel_rfl) (by kernel_rfl) (by kernel_rfl) (by kernel_rfl) rfl (by omega) (by simp only [List.length_map]; omega) (by omega)) ?_
      refine Xg.any_reads (uv (xx1.snd.getD (16383 : Nat) (0 : Int))) 22 5 (by kernel_rfl) rfl (by kernel_rfl) (by kernel_rfl) (by kernel_rfl) (by kernel_rfl) rfl rfl (by kernel_rfl) (Xg.rd_now 4 (Xg.reads_own (E := ((5 : TypeId))) (sz := ((1 : Nat))) (n := n) (c := n) (a := xx1.fst) (vs := (List.map (Value.int IntKind.u8) xx1.snd))) (by kernel_rfl)) (Xg.run_load_rd (off0 := (offA xx1.fst + (16383 : Nat))) ((16383 : Nat)) (by kernel_rfl) (by omega) (Xg.get_ints (by omega)) (by kernel_rfl)) ?_
      refine Xg.any_each [19] (by kernel_rfl) rfl ⟨?_, trivial⟩
      refine Xg.comes_act rfl (by kernel_rfl) (by kernel_rfl) (Xg.opx_call1' [0, 1, 2, 3] [CR xx2.fst h xx2.snd.snd.fst n xx2.snd.snd.snd.fst xx2.snd.snd.snd.snd (0 : Nat) (0 : Nat) (V1 xx2.snd.fst), bts xx2.snd.snd.fst n xx2.snd.snd.snd.fst xx1.snd, bts xx2.snd.snd.snd.snd (0 : Nat) (0 : Nat) (List.replicate (0 : Nat) (0 : Int)), MR1 xx2.snd.fst (regW1 (regW1 (Rg.mk (0 : Int) (1 : Int) (0 : Int) (0 : Int) (0 : Int)) ((8192 : Int) + pickI at0 (8192 : Int)) ((↑kn : Int) % (32 : Int))) ((16384 : Int) + pickI sd (8192 : Int)) ((↑kn : Int) / (32 : Int))), bts xx1.fst n n xx1.snd, A, row xb1 (26 : Nat) [iv 1, iv (pickI cd (7 : Int)), iv 0, iv sd, iv 0, Value.slice none (0 : Nat) (0 : Nat), Value.slice none (0 : Nat) (0 : Nat), Value.bool false], TyP te ta tc] (fun _ => by kernel_rfl) (@hz3 ) (by kernel_rfl) (by kernel_rfl) (by kernel_rfl) ?_)
      refine Xg.acts (Xg.owes_skip (by kernel_rfl) (Xg.owes_skip (by kernel_rfl) (Xg.owes_skip (by kernel_rfl) (Xg.owes_skip (by kernel_rfl) (Xg.owes_rd 4 (Xg.reads_own (E := ((5 : TypeId))) (sz := ((1 : Nat))) (n := n) (c := n) (a := xx1.fst) (vs := (List.map (Value.int IntKind.u8) xx1.snd))) (by kernel_rfl) (Xg.owes_rd 4 (Xg.reads_own (E := ((5 : TypeId))) (sz := ((1 : Nat))) (n := n) (c := n) (a := xx1.fst) (vs := (List.map (Value.int IntKind.u8) xx1.snd))) (by kernel_rfl) (Xg.owes_rd 4 (Xg.reads_own (E := ((5 : TypeId))) (sz := ((1 : Nat))) (n := n) (c := n) (a := xx1.fst) (vs := (List.map (Value.int IntKind.u8) xx1.snd))) (by kernel_rfl) (Xg.owes_rd 4 (Xg.reads_own (E := ((5 : TypeId))) (sz := ((1 : Nat))) (n := n) (c := n) (a := xx1.fst) (vs := (List.map (Value.int IntKind.u8) xx1.snd))) (by kernel_rfl) Xg.owes_nil)))))))) ?_
      refine Xg.any_pure (.bool (decide (((xx1.snd.getD (16383 : Nat) (0 : Int)) : Int) = (xx1.snd.getD (16383 : Nat) (0 : Int))))) 23 (by kernel_rfl) rfl (by kernel_rfl) (by kernel_rfl) (by kernel_rfl) (by kernel_rfl) rfl (fun _ => by kernel_rfl) ?_
      refine Xg.any_flag (j := 154) (c := (decide (xx1.snd.getD (16383 : Nat) (0 : Int) = xx1.snd.getD (16383 : Nat) (0 : Int)))) (by kernel_rfl) (fun _ => ?_) (fun xh3 => absurd (of_decide_eq_false xh3) (by omega))
      refine Xg.any_pure ((Value.bool true)) 24 (by kernel_rfl) rfl (by kernel_rfl) (by kernel_rfl) (by kernel_rfl) (by kernel_rfl) rfl (fun _ => by kernel_rfl) ?_
      refine Xg.any_pure ((Value.bool true)) 25 (by kernel_rfl) rfl (by kernel_rfl) (by kernel_rfl) (by kernel_rfl) (by kernel_rfl) rfl (fun _ => by kernel_rfl) ?_
      refine Xg.any_pure ((pv xx2.fst 0)) 26 (by kernel_rfl) rfl (by kernel_rfl) (by kernel_rfl) (by kernel_rfl) (by kernel_rfl) rfl (fun _ => by kernel_rfl) ?_
      refine Xg.any_pure ((Value.slice xx1.fst n n)) 28 (by kernel_rfl) rfl (by kernel_rfl) (by kernel_rfl) (by kernel_rfl) (by kernel_rfl) rfl (fun _ => by kernel_rfl) ?_
      refine Xg.any_pure ((iv (↑kn : Int))) 29 (by kernel_rfl) rfl (by kernel_rfl) (by kernel_rfl) (by kernel_rfl) (by kernel_rfl) rfl (fun _ => by kernel_rfl) ?_
      refine Xg.any_int .i64 (IntKind.wrap .i64 (((16384 : Int) * (↑kn : Int)))) 30 (by kernel_rfl) rfl (by kernel_rfl) (by kernel_rfl) (by kernel_rfl) (by kernel_rfl) rfl (fun _ => by kernel_rfl) (Xg.wrap_i64_in (by omega)) ?_
      refine Xg.any_int .i64 (IntKind.wrap .i64 (((16384 : Int) * (↑kn : Int) + (16383 : Int)))) 31 (by kernel_rfl) rfl (by kernel_rfl) (by kernel_rfl) (by kernel_rfl) (by kernel_rfl) rfl (fun _ => by kernel_rfl) (Xg.wrap_i64_in (by omega)) ?_
      refine Xg.any_reads (.pointer (some (Addr.mk (Xg.blk xx1.fst) (offA xx1.fst + ((16384 : Int) * (↑kn : Int) + (16383 : Int)).toNat) none))) 32 6 (by kernel_rfl) rfl (by kernel_rfl) (by kernel_rfl) (by kernel_rfl) (by kernel_rfl) rfl rfl (by kernel_rfl) (Xg.rd_now 4 (Xg.reads_own (E := ((5 : TypeId))) (sz := ((1 : Nat))) (n := n) (c := n) (a := xx1.fst) (vs := (List.map (Value.int IntKind.u8) xx1.snd))) (by kernel_rfl)) (Xg.run_ix_rd (elem := 5) (kd := .i64) (e := ((16384 : Int) * (↑kn : Int) + (16383 : Int))) 1 (((16384 : Int) * (↑kn : Int) + (16383 : Int)).toNat) (offA xx1.fst + ((16384 : Int) * (↑kn : Int) + (16383 : Int)).toNat) (by kernel_rfl) (by kernel_rfl) (by kernel_rfl) (by kernel_rfl) (by omega) (by omega) (by simp only [List.length_map]; omega) (by omega)) ?_
      refine Xg.any_reads (uv (xx1.snd.getD ((16384 : Int) * (↑kn : Int) + (16383 : Int)).toNat (0 : Int))) 33 7 (by kernel_rfl) rfl (by kernel_rfl) (by kernel_rfl) (by kernel_rfl) (by kernel_rfl) rfl rfl (by kernel_rfl) (Xg.rd_now 4 (Xg.reads_own (E := ((5 : TypeId))) (sz := ((1 : Nat))) (n := n) (c := n) (a := xx1.fst) (vs := (List.map (Value.int IntKind.u8) xx1.snd))) (by kernel_rfl)) (Xg.run_load_rd (off0 := (offA xx1.fst + ((16384 : Int) * (↑kn : Int) + (16383 : Int)).toNat)) (((16384 : Int) * (↑kn : Int) + (16383 : Int)).toNat) (by kernel_rfl) (by omega) (Xg.get_ints (by omega)) (by kernel_rfl)) ?_
      refine Xg.any_each [27] (by kernel_rfl) rfl ⟨?_, trivial⟩
      refine Xg.comes_act rfl (by kernel_rfl) (by kernel_rfl) (Xg.opx_call1' [0, 1, 2, 3] [CR xx2.fst h xx2.snd.snd.fst n xx2.snd.snd.snd.fst xx2.snd.snd.snd.snd (0 : Nat) (0 : Nat) (V1 xx2.snd.fst), bts xx2.snd.snd.fst n xx2.snd.snd.snd.fst xx1.snd, bts xx2.snd.snd.snd.snd (0 : Nat) (0 : Nat) (List.replicate (0 : Nat) (0 : Int)), MR1 xx2.snd.fst (regW1 (regW1 (Rg.mk (0 : Int) (1 : Int) (0 : Int) (0 : Int) (0 : Int)) ((8192 : Int) + pickI at0 (8192 : Int)) ((↑kn : Int) % (32 : Int))) ((16384 : Int) + pickI sd (8192 : Int)) ((↑kn : Int) / (32 : Int))), bts xx1.fst n n xx1.snd, A, row xb1 (26 : Nat) [iv 1, iv (pickI cd (7 : Int)), iv 0, iv sd, iv 0, Value.slice none (0 : Nat) (0 : Nat), Value.slice none (0 : Nat) (0 : Nat), Value.bool false], TyP te ta tc] (fun _ => by kernel_rfl) (@hz4 ) (by kernel_rfl) (by kernel_rfl) (by kernel_rfl) ?_)
      refine Xg.acts (Xg.owes_skip (by kernel_rfl) (Xg.owes_skip (by kernel_rfl) (Xg.owes_skip (by kernel_rfl) (Xg.owes_skip (by kernel_rfl) (Xg.owes_skip (by kernel_rfl) (Xg.owes_skip (by kernel_rfl) (Xg.owes_rd 4 (Xg.reads_own (E := ((5 : TypeId))) (sz := ((1 : Nat))) (n := n) (c := n) (a := xx1.fst) (vs := (List.map (Value.int IntKind.u8) xx1.snd))) (by kernel_rfl) (Xg.owes_rd 4 (Xg.reads_own (E := ((5 : TypeId))) (sz := ((1 : Nat))) (n := n) (c := n) (a := xx1.fst) (vs := (List.map (Value.int IntKind.u8) xx1.snd))) (by kernel_rfl) Xg.owes_nil)))))))) ?_
      refine Xg.any_pure (.bool (decide (((xx1.snd.getD ((16384 : Int) * (↑kn : Int) + (16383 : Int)).toNat (0 : Int)) : Int) = (xx1.snd.getD ((16384 : Int) * (↑kn : Int) + (16383 : Int)).toNat (0 : Int))))) 34 (by kernel_rfl) rfl (by kernel_rfl) (by kernel_rfl) (by kernel_rfl) (by kernel_rfl) rfl (fun _ => by kernel_rfl) ?_
      refine Xg.any_flag (j := 165) (c := (decide (xx1.snd.getD ((16384 : Int) * (↑kn : Int) + (16383 : Int)).toNat (0 : Int) = xx1.snd.getD ((16384 : Int) * (↑kn : Int) + (16383 : Int)).toNat (0 : Int)))) (by kernel_rfl) (fun _ => ?_) (fun xh3 => absurd (of_decide_eq_false xh3) (by omega))
      refine Xg.any_pure ((Value.bool true)) 35 (by kernel_rfl) rfl (by kernel_rfl) (by kernel_rfl) (by kernel_rfl) (by kernel_rfl) rfl (fun _ => by kernel_rfl) ?_
      refine Xg.any_pure ((Value.bool true)) 36 (by kernel_rfl) rfl (by kernel_rfl) (by kernel_rfl) (by kernel_rfl) (by kernel_rfl) rfl (fun _ => by kernel_rfl) ?_
      refine Xg.any_nil (by kernel_rfl) ?_
      refine Xg.at_ret_ps (v := (Value.bool true)) [5, 7] [A, TyP te ta tc] Go.Proofs.Tryd.func4 (fun _ => by kernel_rfl) (by kernel_rfl) (by kernel_rfl) ?_
      exact ⟨by kernel_rfl, by kernel_rfl⟩)
end Go.Proofs.YthjhkondmobaeaaDoor

/- cart's law: each bank is seen. -/
namespace Go.Proofs.YthjhkondmobaeaaDoor
open Go.Sl Go.Xg
set_option linter.unusedVariables false
set_option linter.unusedSimpArgs false
set_option maxHeartbeats 4000000
set_option maxRecDepth 100000

theorem banks_2 (te : TypeId) (A : HP) (ta : Option Addr) (tc : Nat) (Tl : List Int) (hTl : Tl.length = 10) (hT : Reads A 1 (.slice ta 10 tc) 10 (Tl.map (Value.int .i64))) (w cd sd bk at0 : Int) (hw : iok w) (hcd : iok cd) (hsd : iok sd) (hbk : iok bk) (hat : iok at0) (hq : pickI w 5 = 2) (hTq : Tl.getD 2 0 = 5) :
    Does Tryd.prog 4 [.int .i64 w, .int .i64 cd, .int .i64 sd, .int .i64 bk, .int .i64 at0] [A, TyP te ta tc] (Ret (.bool true) [A, TyP te ta tc]) := by
  have hpw := pick_d w 5 hw (by decide)
  rw [hq] at hpw
  have hpc := pick_d cd 7 hcd (by decide)
  have hlc := pick_lt cd 7 (by decide)
  have hpc4 := pick_d cd 4 hcd (by decide)
  have hlc4 := pick_lt cd 4 (by decide)
  have hpa := pick_d at0 16384 hat (by decide)
  have hla := pick_lt at0 16384 (by decide)
  have hp8 := pick_d at0 8192 hat (by decide)
  have hl8 := pick_lt at0 8192 (by decide)
  have hp2 := pick_d at0 256 hat (by decide)
  have hl2 := pick_lt at0 256 (by decide)
  have hp4 := pick_d at0 4096 hat (by decide)
  have hl4 := pick_lt at0 4096 (by decide)
  have hps := pick_d sd 8192 hsd (by decide)
  have hls := pick_lt sd 8192 (by decide)
  have hps1 := pick_d sd 100 hsd (by decide)
  have hls1 := pick_lt sd 100 (by decide)
  obtain ⟨i, hi⟩ : ∃ i : Nat, pickI at0 16384 = (i : Int) := ⟨(pickI at0 16384).toNat, by omega⟩
  rw [hi] at hpa hla
  obtain ⟨hs1, hs2, hs3⟩ := shl_bnk (c := (pickI cd 4)) ⟨by omega, by omega⟩
  have hbm : bnk (pickI cd 4) ≤ 16 := by
    have h : (pickI cd 4) ≤ 3 := by omega
    rcases (show (pickI cd 4) = 0 ∨ (pickI cd 4) = 1 ∨ (pickI cd 4) = 2 ∨ (pickI cd 4) = 3 by omega) with e | e | e | e <;> rw [e] <;> decide
  obtain ⟨n, hn⟩ : ∃ n : Nat, (n : Int) = 16384 * bnk (pickI cd 4) := ⟨(16384 * bnk (pickI cd 4)).toNat, by omega⟩
  have hr0 := rom_own A 5 (pickI cd 4) 0 sd (by decide) ⟨by omega, by omega⟩ (by decide) hsd n hn
  have hpb := pick_d bk (bnk (pickI cd 4)) hbk ⟨by omega, by omega⟩
  have hlb := pick_lt bk (bnk (pickI cd 4)) (by omega)
  obtain ⟨kn, hkn⟩ : ∃ k : Nat, pickI bk (bnk (pickI cd 4)) = (k : Int) := ⟨(pickI bk (bnk (pickI cd 4))).toNat, by omega⟩
  rw [hkn] at hpb hlb
  rw [← hs1] at hpb
  (focus
    refine Xg.spec_of Go.Proofs.Tryd.func4 rfl Go.Proofs.Tryd.ntmps4 fun g F => ?_)
  (focus
    refine Xg.at_seq ?_
    refine Xg.at_region ?_
    refine Xg.ops_op (by kernel_rfl) (Xg.opx_pure ((Value.bool false)) rfl (fun _ => by kernel_rfl) ?_)
    refine Xg.ops_nil ?_
    refine Xg.at_seq ?_
    refine Xg.at_draw [2] [(0, [0, 1, 2], Xg.CellIs (((0 : Nat))) (((0 : Nat))) ((Value.slice ta (10 : Nat) tc))), (3, [0, 1, 2, 3], (RdIs (1 : Nat) (Value.slice ta (10 : Nat) tc) (10 : Nat) (List.map (Value.int IntKind.i64) Tl))), (4, [0, 1, 2, 3, 4], (RdIs (1 : Nat) (Value.slice ta (10 : Nat) tc) (10 : Nat) (List.map (Value.int IntKind.i64) Tl)))] (by kernel_rfl) ?_
    refine Xg.any_reads (Value.slice ta (10 : Nat) tc) 0 0 (by kernel_rfl) rfl (by kernel_rfl) (by kernel_rfl) (by kernel_rfl) (by kernel_rfl) rfl rfl (by kernel_rfl) (Xg.cell_now (b := ((0 : Nat))) (off := ((0 : Nat))) 1 rfl (by kernel_rfl)) (fun _ h => Xg.run_load (by kernel_rfl) (by kernel_rfl) h) ?_
    refine Xg.any_pure ((iv w)) 1 (by kernel_rfl) rfl (by kernel_rfl) (by kernel_rfl) (by kernel_rfl) (by kernel_rfl) rfl (fun _ => by kernel_rfl) ?_
    refine Xg.any_each [2] (by kernel_rfl) rfl ⟨?_, trivial⟩
    refine Xg.comes_act rfl (by kernel_rfl) (by kernel_rfl) (Xg.opx_call1' [] [A, TyP te ta tc] (fun _ => by kernel_rfl) (@hpw ) (by kernel_rfl) (by kernel_rfl) (by kernel_rfl) ?_)
    refine Xg.acts (Xg.owes_cell 1 rfl (by kernel_rfl) (Xg.owes_rd 0 hT (by kernel_rfl) (Xg.owes_rd 0 hT (by kernel_rfl) Xg.owes_nil))) ?_
    refine Xg.any_reads (.pointer (some (Addr.mk (Xg.blk ta) (offA ta + (2 : Nat)) none))) 3 1 (by kernel_rfl) rfl (by kernel_rfl) (by kernel_rfl) (by kernel_rfl) (by kernel_rfl) rfl rfl (by kernel_rfl) (Xg.rd_now 0 hT (by kernel_rfl)) (Xg.run_ix_rd (elem := 3) (kd := .i64) (e := ((2 : Int))) 1 ((2 : Nat)) (offA ta + (2 : Nat)) (by kernel_rfl) (by kernel_rfl) (by kernel_rfl) (by kernel_rfl) rfl (by omega) (by simp only [List.length_map]; omega) (by omega)) ?_
    refine Xg.any_reads (iv (Tl.getD (2 : Nat) (0 : Int))) 4 2 (by kernel_rfl) rfl (by kernel_rfl) (by kernel_rfl) (by kernel_rfl) (by kernel_rfl) rfl rfl (by kernel_rfl) (Xg.rd_now 0 hT (by kernel_rfl)) (Xg.run_load_rd (off0 := (offA ta + (2 : Nat))) ((2 : Nat)) (by kernel_rfl) (by omega) (Xg.get_ints (by omega)) (by kernel_rfl)) ?_
    refine Xg.any_pure ((iv (Tl.getD (2 : Nat) (0 : Int)))) 5 (by kernel_rfl) rfl (by kernel_rfl) (by kernel_rfl) (by kernel_rfl) (by kernel_rfl) rfl (fun _ => by kernel_rfl) ?_
    refine Xg.any_nil (by kernel_rfl) ?_
    refine Xg.at_seq ?_)
  rw [hTq]
  (focus
    refine Xg.at_region ?_
    refine Xg.ops_op (by kernel_rfl) (Xg.opx_pure ((iv cd)) rfl (fun _ => by kernel_rfl) ?_)
    refine Xg.ops_op (by kernel_rfl) (Xg.opx_call1' [] [A, TyP te ta tc] (fun _ => by kernel_rfl) (@hpc ) (by kernel_rfl) (by kernel_rfl) (by kernel_rfl) ?_)
    refine Xg.ops_op (by kernel_rfl) (Xg.opx_pure ((iv (pickI cd (7 : Int)))) rfl (fun _ => by kernel_rfl) ?_)
    refine Xg.ops_nil ?_
    refine Xg.at_seq ?_
    refine Xg.at_seq ?_
    refine Xg.at_region ?_
    refine Xg.ops_op (by kernel_rfl) (Xg.opx_pure ((iv 5)) rfl (fun _ => by kernel_rfl) ?_)
    refine Xg.ops_nil ?_
    refine Xg.at_block ?_
    refine Xg.at_seq ?_
    refine Xg.at_region ?_
    refine Xg.ops_op (by kernel_rfl) (Xg.opx_pure ((Value.bool false)) rfl (fun _ => by kernel_rfl) ?_)
    refine Xg.ops_op (by kernel_rfl) (Xg.opx_pure ((Value.bool false)) rfl (fun _ => by kernel_rfl) ?_)
    refine Xg.ops_nil ?_
    refine Xg.at_false (t := false) (by kernel_rfl) rfl ?_
    refine Xg.at_seq ?_
    refine Xg.at_region ?_
    refine Xg.ops_op (by kernel_rfl) (Xg.opx_pure ((Value.bool true)) rfl (fun _ => by kernel_rfl) ?_)
    refine Xg.ops_op (by kernel_rfl) (Xg.opx_pure ((Value.bool true)) rfl (fun _ => by kernel_rfl) ?_)
    refine Xg.ops_nil ?_
    refine Xg.at_true (t := true) (by kernel_rfl) rfl ?_
    refine Xg.at_region ?_
    refine Xg.ops_op (by kernel_rfl) (Xg.opx_pure ((iv cd)) rfl (fun _ => by kernel_rfl) ?_)
    refine Xg.ops_op (by kernel_rfl) (Xg.opx_call1' [] [A, TyP te ta tc] (fun _ => by kernel_rfl) (@hpc4 ) (by kernel_rfl) (by kernel_rfl) (by kernel_rfl) ?_)
    refine Xg.ops_op (by kernel_rfl) (Xg.opx_pure ((iv (pickI cd (4 : Int)))) rfl (fun _ => by kernel_rfl) ?_)
    refine Xg.ops_nil ?_
    refine Xg.at_inBlock ?_
    refine Xg.at_seq ?_
    refine Xg.at_region ?_
    refine Xg.ops_op (by kernel_rfl) (Xg.opx_pure ((iv 5)) rfl (fun _ => by kernel_rfl) ?_)
    refine Xg.ops_op (by kernel_rfl) (Xg.opx_pure ((iv (pickI cd (4 : Int)))) rfl (fun _ => by kernel_rfl) ?_)
    refine Xg.ops_op (by kernel_rfl) (Xg.opx_pure ((iv sd)) rfl (fun _ => by kernel_rfl) ?_)
    refine Xg.ops_op (by kernel_rfl) (Xg.opx_pure ((Value.agg #[iv 5, iv (pickI cd (4 : Int)), iv 0, iv sd, iv 0, Value.slice none (0 : Nat) (0 : Nat), Value.slice none (0 : Nat) (0 : Nat), Value.bool false])) rfl (fun _ => by kernel_rfl) ?_)
    refine Xg.ops_op (by kernel_rfl) (Xg.opx_new 8 [iv 0, iv 0, iv 0, iv 0, iv 0, Value.slice none (0 : Nat) (0 : Nat), Value.slice none (0 : Nat) (0 : Nat), Value.bool false] (by kernel_rfl) (by kernel_rfl) fun xb1 => ?_)
    refine Xg.ops_op (by kernel_rfl) (Xg.opx_storen 8 (off := 0) 0 [iv 5, iv (pickI cd (4 : Int)), iv 0, iv sd, iv 0, Value.slice none (0 : Nat) (0 : Nat), Value.slice none (0 : Nat) (0 : Nat), Value.bool false] (by kernel_rfl) rfl (by kernel_rfl) (by kernel_rfl) rfl (by kernel_rfl) (Nat.le_of_ble_eq_true (by kernel_rfl)) ?_)
    refine Xg.ops_nil ?_
    refine Xg.at_seq ?_
    refine Xg.at_region ?_
    refine Xg.ops_op (by kernel_rfl) (Xg.opx_loadn (off := 0) 8 0 [iv 5, iv (pickI cd (4 : Int)), iv 0, iv sd, iv 0, Value.slice none (0 : Nat) (0 : Nat), Value.slice none (0 : Nat) (0 : Nat), Value.bool false] (by kernel_rfl) rfl (by kernel_rfl) rfl (Xg.cells_at (by kernel_rfl)) (by kernel_rfl) ?_)
    refine Xg.ops_op (by kernel_rfl) (Xg.opx_callE' [1] (fun xx1 => [bts xx1.fst n n xx1.snd, A, row xb1 (26 : Nat) [iv 5, iv (pickI cd (4 : Int)), iv 0, iv sd, iv 0, Value.slice none (0 : Nat) (0 : Nat), Value.slice none (0 : Nat) (0 : Nat), Value.bool false], TyP te ta tc]) (fun _ => by kernel_rfl) (@hr0 ) (by kernel_rfl) (by kernel_rfl) (by kernel_rfl) fun xx1 xh1 => ?_)
    try dsimp only at xh1
    refine Xg.ops_op (by kernel_rfl) (Xg.opx_pure ((Value.slice xx1.fst n n)) rfl (fun _ => by kernel_rfl) ?_)
    refine Xg.ops_nil ?_
    refine Xg.at_seq ?_
    refine Xg.at_region ?_
    refine Xg.ops_op (by kernel_rfl) (Xg.opx_pure ((Value.slice xx1.fst n n)) rfl (fun _ => by kernel_rfl) ?_))
  refine Xg.ops_some 0 rfl (by omega) fun hss1 hss2 => ?_
  have hRl := xh1.l
  have hck := chk_box (k := ⟨2, 16, [0], false⟩) xh1 (by decide) ⟨by omega, by omega⟩ (by decide) (by rfl) hbm hn (by decide)
  obtain ⟨h, hh⟩ : ∃ h, hdX 5 (pickI cd 4) 0 sd ⟨2, 16, [0], false⟩ = h := ⟨_, rfl⟩
  have hmp : h.mp = 2 := by rw [← hh]; rfl
  have hbk2 : h.bk = bnk (pickI cd 4) := by rw [← hh]; rfl
  have hrm : h.rm = ((512 : Nat) : Int) := by rw [← hh]; rfl
  rw [hh] at hck
  have hnw := new2_d (bts xx1.1 n n xx1.2) xx1.1 n n xx1.2 h 512 xh1.l (Nat.le_refl _) (by omega) hss1 xh1.b Xg.reads_own hck (by omega) hmp hrm (by decide)
  by_cases hk0 : kn = 0
  · (focus
      refine Xg.ops_op (by kernel_rfl) (Xg.opx_callE' [0] (fun xx2 => [CR xx2.fst h xx2.snd.snd.fst n xx2.snd.snd.snd.fst xx2.snd.snd.snd.snd (512 : Nat) (512 : Nat) (V2 xx2.snd.fst), bts xx2.snd.snd.fst n xx2.snd.snd.snd.fst xx1.snd, bts xx2.snd.snd.snd.snd (512 : Nat) (512 : Nat) (List.replicate (512 : Nat) (0 : Int)), MR2 xx2.snd.fst rg0, bts xx1.fst n n xx1.snd, A, row xb1 (26 : Nat) [iv 5, iv (pickI cd (4 : Int)), iv 0, iv sd, iv 0, Value.slice none (0 : Nat) (0 : Nat), Value.slice none (0 : Nat) (0 : Nat), Value.bool false], TyP te ta tc]) (fun _ => by kernel_rfl) (@hnw ) (by kernel_rfl) (by kernel_rfl) (by kernel_rfl) fun xx2 xh2 => ?_)
      try dsimp only at xh2
      refine Xg.ops_op (by kernel_rfl) (Xg.opx_pure ((Value.tuple #[pv xx2.fst 0, iv 0])) rfl (fun _ => by kernel_rfl) ?_)
      refine Xg.ops_op (by kernel_rfl) (Xg.opx_pure ((pv xx2.fst 0)) rfl (fun _ => by kernel_rfl) ?_)
      refine Xg.ops_op (by kernel_rfl) (Xg.opx_pure ((iv 0)) rfl (fun _ => by kernel_rfl) ?_)
      refine Xg.ops_op (by kernel_rfl) (Xg.opx_pure ((pv xx2.fst 0)) rfl (fun _ => by kernel_rfl) ?_)
      refine Xg.ops_op (by kernel_rfl) (Xg.opx_pure ((iv 0)) rfl (fun _ => by kernel_rfl) ?_)
      refine Xg.ops_nil ?_
      refine Xg.at_seq ?_
      refine Xg.at_seq ?_
      refine Xg.at_region ?_
      refine Xg.ops_op (by kernel_rfl) (Xg.opx_pure ((pv xx2.fst 0)) rfl (fun _ => by kernel_rfl) ?_)
      refine Xg.ops_op (by kernel_rfl) (Xg.opx_pure ((Value.bool false)) rfl (fun _ => by kernel_rfl) ?_)
      refine Xg.ops_op (by kernel_rfl) (Xg.opx_pure ((Value.bool false)) rfl (fun _ => by kernel_rfl) ?_)
      refine Xg.ops_op (by kernel_rfl) (Xg.opx_pure ((iv 0)) rfl (fun _ => by kernel_rfl) ?_)
      refine Xg.ops_op (by kernel_rfl) (Xg.opx_pure ((Value.bool false)) rfl (fun _ => by kernel_rfl) ?_)
      refine Xg.ops_op (by kernel_rfl) (Xg.opx_pure ((Value.bool false)) rfl (fun _ => by kernel_rfl) ?_)
      refine Xg.ops_nil ?_
      refine Xg.at_false (t := false) (by kernel_rfl) rfl ?_
      refine Xg.at_skip ?_
      refine Xg.at_seq ?_
      refine Xg.at_region ?_
      refine Xg.ops_op (by kernel_rfl) (Xg.opx_pure ((iv (pickI cd (4 : Int)))) rfl (fun _ => by kernel_rfl) ?_)
      refine Xg.ops_op (by kernel_rfl) (Xg.opx_run (.int .i64 (IntKind.wrap .i64 (((2 : Int)) * 2 ^ min (Int.toNat (pickI cd (4 : Int))) (IntKind.bits .i64)))) rfl (fun _ => Xg.run_shl (k1 := .i64) (k2 := .i64) (m := ((2 : Int))) (e := (pickI cd (4 : Int))) (by kernel_rfl) (by kernel_rfl) (by omega)) ?_)
      refine Xg.ops_op (by kernel_rfl) (Xg.opx_pure ((iv (IntKind.i64.wrap ((2 : Int) * (2 : Int) ^ min (pickI cd (4 : Int)).toNat IntKind.i64.bits)))) rfl (fun _ => by kernel_rfl) ?_)
      refine Xg.ops_nil ?_
      refine Xg.at_seq ?_
      refine Xg.at_region ?_
      refine Xg.ops_op (by kernel_rfl) (Xg.opx_pure ((iv bk)) rfl (fun _ => by kernel_rfl) ?_)
      refine Xg.ops_op (by kernel_rfl) (Xg.opx_pure ((iv (IntKind.i64.wrap ((2 : Int) * (2 : Int) ^ min (pickI cd (4 : Int)).toNat IntKind.i64.bits)))) rfl (fun _ => by kernel_rfl) ?_)
      refine Xg.ops_op (by kernel_rfl) (Xg.opx_call1' [] [CR xx2.fst h xx2.snd.snd.fst n xx2.snd.snd.snd.fst xx2.snd.snd.snd.snd (512 : Nat) (512 : Nat) (V2 xx2.snd.fst), bts xx2.snd.snd.fst n xx2.snd.snd.snd.fst xx1.snd, bts xx2.snd.snd.snd.snd (512 : Nat) (512 : Nat) (List.replicate (512 : Nat) (0 : Int)), MR2 xx2.snd.fst rg0, bts xx1.fst n n xx1.snd, A, row xb1 (26 : Nat) [iv 5, iv (pickI cd (4 : Int)), iv 0, iv sd, iv 0, Value.slice none (0 : Nat) (0 : Nat), Value.slice none (0 : Nat) (0 : Nat), Value.bool false], TyP te ta tc] (fun _ => by kernel_rfl) (@hpb ) (by kernel_rfl) (by kernel_rfl) (by kernel_rfl) ?_)
      refine Xg.ops_op (by kernel_rfl) (Xg.opx_pure ((iv (↑kn : Int))) rfl (fun _ => by kernel_rfl) ?_)
      refine Xg.ops_nil ?_
      refine Xg.at_seq ?_
      refine Xg.at_seq ?_
      refine Xg.at_region ?_
      refine Xg.ops_op (by kernel_rfl) (Xg.opx_pure ((iv 5)) rfl (fun _ => by kernel_rfl) ?_)
      refine Xg.ops_nil ?_
      refine Xg.at_block ?_
      refine Xg.at_seq ?_
      refine Xg.at_region ?_
      refine Xg.ops_op (by kernel_rfl) (Xg.opx_pure ((Value.bool false)) rfl (fun _ => by kernel_rfl) ?_)
      refine Xg.ops_op (by kernel_rfl) (Xg.opx_pure ((Value.bool false)) rfl (fun _ => by kernel_rfl) ?_)
      refine Xg.ops_nil ?_
      refine Xg.at_false (t := false) (by kernel_rfl) rfl ?_
      refine Xg.at_seq ?_
      refine Xg.at_region ?_
      refine Xg.ops_op (by kernel_rfl) (Xg.opx_pure ((Value.bool false)) rfl (fun _ => by kernel_rfl) ?_)
      refine Xg.ops_op (by kernel_rfl) (Xg.opx_pure ((Value.bool false)) rfl (fun _ => by kernel_rfl) ?_)
      refine Xg.ops_nil ?_
      refine Xg.at_false (t := false) (by kernel_rfl) rfl ?_
      refine Xg.at_seq ?_
      refine Xg.at_region ?_
      refine Xg.ops_op (by kernel_rfl) (Xg.opx_pure ((Value.bool true)) rfl (fun _ => by kernel_rfl) ?_)
      refine Xg.ops_op (by kernel_rfl) (Xg.opx_pure ((Value.bool true)) rfl (fun _ => by kernel_rfl) ?_)
      refine Xg.ops_nil ?_
      refine Xg.at_true (t := true) (by kernel_rfl) rfl ?_
      refine Xg.at_seq ?_
      refine Xg.at_seq ?_
      refine Xg.at_region ?_
      refine Xg.ops_op (by kernel_rfl) (Xg.opx_pure ((iv (↑kn : Int))) rfl (fun _ => by kernel_rfl) ?_)
      refine Xg.ops_op (by kernel_rfl) (Xg.opx_pure (.bool (decide ((((↑kn : Int)) : Int) = ((0 : Int))))) rfl (fun _ => by kernel_rfl) ?_)
      refine Xg.ops_nil ?_
      refine Xg.at_true (t := decide (((↑kn : Int) = (0 : Int)))) (by kernel_rfl) (decide_eq_true (by omega)) ?_
      refine Xg.at_region ?_
      refine Xg.ops_op (by kernel_rfl) (Xg.opx_pure ((iv 1)) rfl (fun _ => by kernel_rfl) ?_)
      refine Xg.ops_nil ?_
      refine Xg.at_region ?_
      refine Xg.ops_op (by kernel_rfl) (Xg.opx_pure ((pv xx2.fst 0)) rfl (fun _ => by kernel_rfl) ?_)
      refine Xg.ops_op (by kernel_rfl) (Xg.opx_pure ((iv at0)) rfl (fun _ => by kernel_rfl) ?_))
    obtain ⟨hhigh, hlow⟩ := bank2 (pickI at0 256) 1 hl2 ⟨by omega, by omega⟩
    have hrok : (regW2 (⟨0, 1, 0, 0, 0⟩ : Rg) (8448 + pickI at0 256) 1).Ok := regW2_ok (show (⟨0, 1, 0, 0, 0⟩ : Rg).Ok from ⟨by decide, by decide, by decide, by decide, by decide⟩) _ _ ⟨by omega, by omega⟩
    have hw1 := writeR2_d xx2.1 xx2.2.1 h (⟨0, 1, 0, 0, 0⟩ : Rg) xx2.2.2.1 n xx2.2.2.2.1 xx2.2.2.2.2 512 512 xx1.2 (List.replicate 512 0)
    have hkb : ((1 : Nat) : Int) < h.bk := by rw [hbk2]; omega
    have hz1 := read2_d xx2.1 xx2.2.1 h (regW2 (⟨0, 1, 0, 0, 0⟩ : Rg) (8448 + pickI at0 256) 1) xx2.2.2.1 n xx2.2.2.2.1 xx2.2.2.2.2 512 512 xx1.2 (List.replicate 512 0) (i : Int) ⟨by omega, by omega⟩ hrok (by rw [hbk2]; omega) xh1.l (by rw [hbk2]; omega) xh2 (List.length_replicate) (Nat.le_refl _) (isB_rep _) hmp (Or.inr (Or.inl ⟨rfl, rfl⟩))
    rw [read_low 2 (regW2 (⟨0, 1, 0, 0, 0⟩ : Rg) (8448 + pickI at0 256) 1) h.bk xx1.2 _ i hlow (by omega)] at hz1
    have hz2 := read2_d xx2.1 xx2.2.1 h (regW2 (⟨0, 1, 0, 0, 0⟩ : Rg) (8448 + pickI at0 256) 1) xx2.2.2.1 n xx2.2.2.2.1 xx2.2.2.2.2 512 512 xx1.2 (List.replicate 512 0) (16384 + (i : Int)) ⟨by omega, by omega⟩ hrok (by rw [hbk2]; omega) xh1.l (by rw [hbk2]; omega) xh2 (List.length_replicate) (Nat.le_refl _) (isB_rep _) hmp (Or.inr (Or.inl ⟨rfl, rfl⟩))
    rw [read_high 2 (regW2 (⟨0, 1, 0, 0, 0⟩ : Rg) (8448 + pickI at0 256) 1) h.bk xx1.2 _ 1 i hhigh hkb (by omega)] at hz2
    have hz3 := read2_d xx2.1 xx2.2.1 h (regW2 (⟨0, 1, 0, 0, 0⟩ : Rg) (8448 + pickI at0 256) 1) xx2.2.2.1 n xx2.2.2.2.1 xx2.2.2.2.2 512 512 xx1.2 (List.replicate 512 0) 16383 ⟨by decide, by decide⟩ hrok (by rw [hbk2]; omega) xh1.l (by rw [hbk2]; omega) xh2 (List.length_replicate) (Nat.le_refl _) (isB_rep _) hmp (Or.inr (Or.inl ⟨rfl, rfl⟩))
    rw [read_low' 2 (regW2 (⟨0, 1, 0, 0, 0⟩ : Rg) (8448 + pickI at0 256) 1) h.bk xx1.2 _ hlow] at hz3
    have hz4 := read2_d xx2.1 xx2.2.1 h (regW2 (⟨0, 1, 0, 0, 0⟩ : Rg) (8448 + pickI at0 256) 1) xx2.2.2.1 n xx2.2.2.2.1 xx2.2.2.2.2 512 512 xx1.2 (List.replicate 512 0) 32767 ⟨by decide, by decide⟩ hrok (by rw [hbk2]; omega) xh1.l (by rw [hbk2]; omega) xh2 (List.length_replicate) (Nat.le_refl _) (isB_rep _) hmp (Or.inr (Or.inl ⟨rfl, rfl⟩))
    rw [read_high' 2 (regW2 (⟨0, 1, 0, 0, 0⟩ : Rg) (8448 + pickI at0 256) 1) h.bk xx1.2 _ 1 hhigh hkb] at hz4
    have hg1 : xx1.2.getD ((16384 : Int) + (i : Int)).toNat 0 = xx1.2.getD (16384 * 1 + i) 0 := by first | rfl | (congr 1; omega)
    have hg2 : xx1.2.getD ((32767 : Int)).toNat 0 = xx1.2.getD (16384 * 1 + 16383) 0 := by first | rfl | (congr 1; omega)
    rw [← hg1] at hz2
    rw [show xx1.2.getD (16384 * 1 + 16383) 0 = xx1.2.getD 32767 0 from rfl] at hz4
    (focus
      refine Xg.ops_op (by kernel_rfl) (Xg.opx_call1' [] [CR xx2.fst h xx2.snd.snd.fst n xx2.snd.snd.snd.fst xx2.snd.snd.snd.snd (512 : Nat) (512 : Nat) (V2 xx2.snd.fst), bts xx2.snd.snd.fst n xx2.snd.snd.snd.fst xx1.snd, bts xx2.snd.snd.snd.snd (512 : Nat) (512 : Nat) (List.replicate (512 : Nat) (0 : Int)), MR2 xx2.snd.fst rg0, bts xx1.fst n n xx1.snd, A, row xb1 (26 : Nat) [iv 5, iv (pickI cd (4 : Int)), iv 0, iv sd, iv 0, Value.slice none (0 : Nat) (0 : Nat), Value.slice none (0 : Nat) (0 : Nat), Value.bool false], TyP te ta tc] (fun _ => by kernel_rfl) (@hp2 ) (by kernel_rfl) (by kernel_rfl) (by kernel_rfl) ?_)
      refine Xg.ops_op (by kernel_rfl) (Xg.opx_int .i64 (IntKind.wrap .i64 (((8448 : Int) + pickI at0 (256 : Int)))) rfl (fun _ => by kernel_rfl) (Xg.wrap_i64_in (by omega)) ?_)
      refine Xg.ops_op (by kernel_rfl) (Xg.opx_pure ((iv 1)) rfl (fun _ => by kernel_rfl) ?_)
      refine Xg.ops_op (by kernel_rfl) (Xg.opx_pure (.int .u8 ((1 : Int))) rfl (fun _ => by kernel_rfl) ?_)
      refine Xg.ops_op (by kernel_rfl) (Xg.opx_call1' [0, 1, 2, 3] [CR xx2.fst h xx2.snd.snd.fst n xx2.snd.snd.snd.fst xx2.snd.snd.snd.snd (512 : Nat) (512 : Nat) (V2 xx2.snd.fst), bts xx2.snd.snd.fst n xx2.snd.snd.snd.fst xx1.snd, bts xx2.snd.snd.snd.snd (512 : Nat) (512 : Nat) (List.replicate (512 : Nat) (0 : Int)), MR2 xx2.snd.fst (regW2 (Rg.mk (0 : Int) (1 : Int) (0 : Int) (0 : Int) (0 : Int)) ((8448 : Int) + pickI at0 (256 : Int)) (1 : Int)), bts xx1.fst n n xx1.snd, A, row xb1 (26 : Nat) [iv 5, iv (pickI cd (4 : Int)), iv 0, iv sd, iv 0, Value.slice none (0 : Nat) (0 : Nat), Value.slice none (0 : Nat) (0 : Nat), Value.bool false], TyP te ta tc] (fun _ => by kernel_rfl) (@hw1 (((8448 : Int) + pickI at0 (256 : Int))) (((1 : Int))) (by omega) (by omega)) (by kernel_rfl) (by kernel_rfl) (by kernel_rfl) ?_)
      refine Xg.ops_nil ?_
      refine Xg.at_inBlock ?_
      refine Xg.at_seq ?_
      refine Xg.at_region ?_
      refine Xg.ops_op (by kernel_rfl) (Xg.opx_pure ((iv at0)) rfl (fun _ => by kernel_rfl) ?_)
      refine Xg.ops_op (by kernel_rfl) (Xg.opx_call1' [] [CR xx2.fst h xx2.snd.snd.fst n xx2.snd.snd.snd.fst xx2.snd.snd.snd.snd (512 : Nat) (512 : Nat) (V2 xx2.snd.fst), bts xx2.snd.snd.fst n xx2.snd.snd.snd.fst xx1.snd, bts xx2.snd.snd.snd.snd (512 : Nat) (512 : Nat) (List.replicate (512 : Nat) (0 : Int)), MR2 xx2.snd.fst (regW2 (Rg.mk (0 : Int) (1 : Int) (0 : Int) (0 : Int) (0 : Int)) ((8448 : Int) + pickI at0 (256 : Int)) (1 : Int)), bts xx1.fst n n xx1.snd, A, row xb1 (26 : Nat) [iv 5, iv (pickI cd (4 : Int)), iv 0, iv sd, iv 0, Value.slice none (0 : Nat) (0 : Nat), Value.slice none (0 : Nat) (0 : Nat), Value.bool false], TyP te ta tc] (fun _ => by kernel_rfl) (@hpa ) (by kernel_rfl) (by kernel_rfl) (by kernel_rfl) ?_)
      refine Xg.ops_op (by kernel_rfl) (Xg.opx_pure ((iv (↑i : Int))) rfl (fun _ => by kernel_rfl) ?_)
      refine Xg.ops_nil ?_
      refine Xg.at_seq ?_
      refine Xg.at_region ?_
      refine Xg.ops_op (by kernel_rfl) (Xg.opx_pure ((pv xx2.fst 0)) rfl (fun _ => by kernel_rfl) ?_)
      refine Xg.ops_op (by kernel_rfl) (Xg.opx_pure ((iv (↑i : Int))) rfl (fun _ => by kernel_rfl) ?_)
      refine Xg.ops_op (by kernel_rfl) (Xg.opx_call1' [0, 1, 2, 3] [CR xx2.fst h xx2.snd.snd.fst n xx2.snd.snd.snd.fst xx2.snd.snd.snd.snd (512 : Nat) (512 : Nat) (V2 xx2.snd.fst), bts xx2.snd.snd.fst n xx2.snd.snd.snd.fst xx1.snd, bts xx2.snd.snd.snd.snd (512 : Nat) (512 : Nat) (List.replicate (512 : Nat) (0 : Int)), MR2 xx2.snd.fst (regW2 (Rg.mk (0 : Int) (1 : Int) (0 : Int) (0 : Int) (0 : Int)) ((8448 : Int) + pickI at0 (256 : Int)) (1 : Int)), bts xx1.fst n n xx1.snd, A, row xb1 (26 : Nat) [iv 5, iv (pickI cd (4 : Int)), iv 0, iv sd, iv 0, Value.slice none (0 : Nat) (0 : Nat), Value.slice none (0 : Nat) (0 : Nat), Value.bool false], TyP te ta tc] (fun _ => by kernel_rfl) (@hz1 ) (by kernel_rfl) (by kernel_rfl) (by kernel_rfl) ?_)
      refine Xg.ops_op (by kernel_rfl) (Xg.opx_pure ((uv (xx1.snd.getD i (0 : Int)))) rfl (fun _ => by kernel_rfl) ?_)
      refine Xg.ops_nil ?_
      refine Xg.at_seq ?_
      refine Xg.at_region ?_
      refine Xg.ops_op (by kernel_rfl) (Xg.opx_pure ((pv xx2.fst 0)) rfl (fun _ => by kernel_rfl) ?_)
      refine Xg.ops_op (by kernel_rfl) (Xg.opx_pure ((iv (↑i : Int))) rfl (fun _ => by kernel_rfl) ?_)
      refine Xg.ops_op (by kernel_rfl) (Xg.opx_int .i64 (IntKind.wrap .i64 (((16384 : Int) + (↑i : Int)))) rfl (fun _ => by kernel_rfl) (Xg.wrap_i64_in (by omega)) ?_)
      refine Xg.ops_op (by kernel_rfl) (Xg.opx_call1' [0, 1, 2, 3] [CR xx2.fst h xx2.snd.snd.fst n xx2.snd.snd.snd.fst xx2.snd.snd.snd.snd (512 : Nat) (512 : Nat) (V2 xx2.snd.fst), bts xx2.snd.snd.fst n xx2.snd.snd.snd.fst xx1.snd, bts xx2.snd.snd.snd.snd (512 : Nat) (512 : Nat) (List.replicate (512 : Nat) (0 : Int)), MR2 xx2.snd.fst (regW2 (Rg.mk (0 : Int) (1 : Int) (0 : Int) (0 : Int) (0 : Int)) ((8448 : Int) + pickI at0 (256 : Int)) (1 : Int)), bts xx1.fst n n xx1.snd, A, row xb1 (26 : Nat) [iv 5, iv (pickI cd (4 : Int)), iv 0, iv sd, iv 0, Value.slice none (0 : Nat) (0 : Nat), Value.slice none (0 : Nat) (0 : Nat), Value.bool false], TyP te ta tc] (fun _ => by kernel_rfl) (@hz2 ) (by kernel_rfl) (by kernel_rfl) (by kernel_rfl) ?_)
      refine Xg.ops_op (by kernel_rfl) (Xg.opx_pure ((uv (xx1.snd.getD ((16384 : Int) + (↑i : Int)).toNat (0 : Int)))) rfl (fun _ => by kernel_rfl) ?_)
      refine Xg.ops_nil ?_
      refine Xg.at_seq ?_
      refine Xg.at_draw [19, 27] [(3, [0, 1, 2, 3], (RdIs (1 : Nat) (Value.slice xx1.fst n n) n (List.map (Value.int IntKind.u8) xx1.snd))), (4, [0, 1, 2, 3, 4], (RdIs (1 : Nat) (Value.slice xx1.fst n n) n (List.map (Value.int IntKind.u8) xx1.snd))), (13, [0, 1, 2, 3, 4, 5, 6, 7, 8, 9, 10, 11, 12, 13], (RdIs (1 : Nat) (Value.slice xx1.fst n n) n (List.map (Value.int IntKind.u8) xx1.snd))), (14, [0, 1, 2, 3, 4, 5, 6, 7, 8, 9, 10, 11, 12, 13, 14], (RdIs (1 : Nat) (Value.slice xx1.fst n n) n (List.map (Value.int IntKind.u8) xx1.snd))), (21, [0, 1, 2, 3, 4, 5, 6, 7, 8, 9, 10, 11, 12, 13, 14, 15, 16, 17, 18, 19, 20, 21], (RdIs (1 : Nat) (Value.slice xx1.fst n n) n (List.map (Value.int IntKind.u8) xx1.snd))), (22, [0, 1, 2, 3, 4, 5, 6, 7, 8, 9, 10, 11, 12, 13, 14, 15, 16, 17, 18, 19, 20, 21, 22], (RdIs (1 : Nat) (Value.slice xx1.fst n n) n (List.map (Value.int IntKind.u8) xx1.snd))), (32, [0, 1, 2, 3, 4, 5, 6, 7, 8, 9, 10, 11, 12, 13, 14, 15, 16, 17, 18, 19, 20, 21, 22, 23, 24, 25, 26, 27, 28, 29, 30, 31, 32], (RdIs (1 : Nat) (Value.slice xx1.fst n n) n (List.map (Value.int IntKind.u8) xx1.snd))), (33, [0, 1, 2, 3, 4, 5, 6, 7, 8, 9, 10, 11, 12, 13, 14, 15, 16, 17, 18, 19, 20, 21, 22, 23, 24, 25, 26, 27, 28, 29, 30, 31, 32, 33], (RdIs (1 : Nat) (Value.slice xx1.fst n n) n (List.map (Value.int IntKind.u8) xx1.snd)))] (by kernel_rfl) ?_
      refine Xg.any_pure ((uv (xx1.snd.getD i (0 : Int)))) 0 (by kernel_rfl) rfl (by kernel_rfl) (by kernel_rfl) (by kernel_rfl) (by kernel_rfl) rfl (fun _ => by kernel_rfl) ?_
      refine Xg.any_pure ((Value.slice xx1.fst n n)) 1 (by kernel_rfl) rfl (by kernel_rfl) (by kernel_rfl) (by kernel_rfl) (by kernel_rfl) rfl (fun _ => by kernel_rfl) ?_
      refine Xg.any_pure ((iv (↑i : Int))) 2 (by kernel_rfl) rfl (by kernel_rfl) (by kernel_rfl) (by kernel_rfl) (by kernel_rfl) rfl (fun _ => by kernel_rfl) ?_
      refine Xg.any_reads (.pointer (some (Addr.mk (Xg.blk xx1.fst) (offA xx1.fst + i) none))) 3 0 (by kernel_rfl) rfl (by kernel_rfl) (by kernel_rfl) (by kernel_rfl) (by kernel_rfl) rfl rfl (by kernel_rfl) (Xg.rd_now 4 (Xg.reads_own (E := ((5 : TypeId))) (sz := ((1 : Nat))) (n := n) (c := n) (a := xx1.fst) (vs := (List.map (Value.int IntKind.u8) xx1.snd))) (by kernel_rfl)) (Xg.run_ix_rd (elem := 5) (kd := .i64) (e := ((↑i : Int))) 1 i (offA xx1.fst + i) (by kernel_rfl) (by kernel_rfl) (by kernel_rfl) (by kernel_rfl) rfl (by omega) (by simp only [List.length_map]; omega) (by omega)) ?_
      refine Xg.any_reads (uv (xx1.snd.getD i (0 : Int))) 4 1 (by kernel_rfl) rfl (by kernel_rfl) (by kernel_rfl) (by kernel_rfl) (by kernel_rfl) rfl rfl (by kernel_rfl) (Xg.rd_now 4 (Xg.reads_own (E := ((5 : TypeId))) (sz := ((1 : Nat))) (n := n) (c := n) (a := xx1.fst) (vs := (List.map (Value.int IntKind.u8) xx1.snd))) (by kernel_rfl)) (Xg.run_load_rd (off0 := (offA xx1.fst + i)) i (by kernel_rfl) (by omega) (Xg.get_ints (by omega)) (by kernel_rfl)) ?_
      refine Xg.any_pure (.bool (decide (((xx1.snd.getD i (0 : Int)) : Int) = (xx1.snd.getD i (0 : Int))))) 5 (by kernel_rfl) rfl (by kernel_rfl) (by kernel_rfl) (by kernel_rfl) (by kernel_rfl) rfl (fun _ => by kernel_rfl) ?_
      refine Xg.any_pure ((Value.bool (decide (xx1.snd.getD i (0 : Int) = xx1.snd.getD i (0 : Int))))) 6 (by kernel_rfl) rfl (by kernel_rfl) (by kernel_rfl) (by kernel_rfl) (by kernel_rfl) rfl (fun _ => by kernel_rfl) ?_
      refine Xg.any_flag (j := 137) (c := (decide (xx1.snd.getD i (0 : Int) = xx1.snd.getD i (0 : Int)))) (by kernel_rfl) (fun _ => ?_) (fun xh3 => absurd (of_decide_eq_false xh3) (by omega))
      refine Xg.any_pure ((uv (xx1.snd.getD ((16384 : Int) + (↑i : Int)).toNat (0 : Int)))) 7 (by kernel_rfl) rfl (by kernel_rfl) (by kernel_rfl) (by kernel_rfl) (by kernel_rfl) rfl (fun _ => by kernel_rfl) ?_
      refine Xg.any_pure ((Value.slice xx1.fst n n)) 8 (by kernel_rfl) rfl (by kernel_rfl) (by kernel_rfl) (by kernel_rfl) (by kernel_rfl) rfl (fun _ => by kernel_rfl) ?_
      refine Xg.any_pure ((iv 1)) 9 (by kernel_rfl) rfl (by kernel_rfl) (by kernel_rfl) (by kernel_rfl) (by kernel_rfl) rfl (fun _ => by kernel_rfl) ?_
      refine Xg.any_pure ((iv 16384)) 10 (by kernel_rfl) rfl (by kernel_rfl) (by kernel_rfl) (by kernel_rfl) (by kernel_rfl) rfl (fun _ => by kernel_rfl) ?_
      refine Xg.any_pure ((iv (↑i : Int))) 11 (by kernel_rfl) rfl (by kernel_rfl) (by kernel_rfl) (by kernel_rfl) (by kernel_rfl) rfl (fun _ => by kernel_rfl) ?_
      refine Xg.any_int .i64 (IntKind.wrap .i64 (((16384 : Int) + (↑i : Int)))) 12 (by kernel_rfl) rfl (by kernel_rfl) (by kernel_rfl) (by kernel_rfl) (by kernel_rfl) rfl (fun _ => by kernel_rfl) (Xg.wrap_i64_in (by omega)) ?_
      refine Xg.any_reads (.pointer (some (Addr.mk (Xg.blk xx1.fst) (offA xx1.fst + ((16384 : Int) + (↑i : Int)).toNat) none))) 13 2 (by kernel_rfl) rfl (by kernel_rfl) (by kernel_rfl) (by kernel_rfl) (by kernel_rfl) rfl rfl (by kernel_rfl) (Xg.rd_now 4 (Xg.reads_own (E := ((5 : TypeId))) (sz := ((1 : Nat))) (n := n) (c := n) (a := xx1.fst) (vs := (List.map (Value.int IntKind.u8) xx1.snd))) (by kernel_rfl)) (Xg.run_ix_rd (elem := 5) (kd := .i64) (e := ((16384 : Int) + (↑i : Int))) 1 (((16384 : Int) + (↑i : Int)).toNat) (offA xx1.fst + ((16384 : Int) + (↑i : Int)).toNat) (by kernel_rfl) (by kernel_rfl) (by kernel_rfl) (by kernel_rfl) (by omega) (by omega) (by simp only [List.length_map]; omega) (by omega)) ?_
      refine Xg.any_reads (uv (xx1.snd.getD ((16384 : Int) + (↑i : Int)).toNat (0 : Int))) 14 3 (by kernel_rfl) rfl (by kernel_rfl) (by kernel_rfl) (by kernel_rfl) (by kernel_rfl) rfl rfl (by kernel_rfl) (Xg.rd_now 4 (Xg.reads_own (E := ((5 : TypeId))) (sz := ((1 : Nat))) (n := n) (c := n) (a := xx1.fst) (vs := (List.map (Value.int IntKind.u8) xx1.snd))) (by kernel_rfl)) (Xg.run_load_rd (off0 := (offA xx1.fst + ((16384 : Int) + (↑i : Int)).toNat)) (((16384 : Int) + (↑i : Int)).toNat) (by kernel_rfl) (by omega) (Xg.get_ints (by omega)) (by kernel_rfl)) ?_
      refine Xg.any_pure (.bool (decide (((xx1.snd.getD ((16384 : Int) + (↑i : Int)).toNat (0 : Int)) : Int) = (xx1.snd.getD ((16384 : Int) + (↑i : Int)).toNat (0 : Int))))) 15 (by kernel_rfl) rfl (by kernel_rfl) (by kernel_rfl) (by kernel_rfl) (by kernel_rfl) rfl (fun _ => by kernel_rfl) ?_
      refine Xg.any_flag (j := 146) (c := (decide (xx1.snd.getD ((16384 : Int) + (↑i : Int)).toNat (0 : Int) = xx1.snd.getD ((16384 : Int) + (↑i : Int)).toNat (0 : Int)))) (by kernel_rfl) (fun _ => ?_) (fun xh3 => absurd (of_decide_eq_false xh3) (by omega))
      refine Xg.any_pure ((Value.bool true)) 16 (by kernel_rfl) rfl (by kernel_rfl) (by kernel_rfl) (by kernel_rfl) (by kernel_rfl) rfl (fun _ => by kernel_rfl) ?_
      refine Xg.any_pure ((Value.bool true)) 17 (by kernel_rfl) rfl (by kernel_rfl) (by kernel_rfl) (by kernel_rfl) (by kernel_rfl) rfl (fun _ => by kernel_rfl) ?_
      refine Xg.any_pure ((pv xx2.fst 0)) 18 (by kernel_rfl) rfl (by kernel_rfl) (by kernel_rfl) (by kernel_rfl) (by kernel_rfl) rfl (fun _ => by kernel_rfl) ?_
      refine Xg.any_pure ((Value.slice xx1.fst n n)) 20 (by kernel_rfl) rfl (by kernel_rfl) (by kernel_rfl) (by kernel_rfl) (by kernel_rfl) rfl (fun _ => by kernel_rfl) ?_
      refine Xg.any_reads (.pointer (some (Addr.mk (Xg.blk xx1.fst) (offA xx1.fst + (16383 : Nat)) none))) 21 4 (by kernel_rfl) rfl (by kernel_rfl) (by kernel_rfl) (by kernel_rfl) (by kernel_rfl) rfl rfl (by kernel_rfl) (Xg.rd_now 4 (Xg.reads_own (E := ((5 : TypeId))) (sz := ((1 : Nat))) (n := n) (c := n) (a := xx1.fst) (vs := (List.map (Value.int IntKind.u8) xx1.snd))) (by kernel_rfl)) (Xg.run_ix_rd (elem := 5) (kd := .i64) (e := ((16383 : Int))) 1 ((16383 : Nat)) (offA xx1.fst + (16383 : Nat)) (by kernel_rfl) (by kernel_rfl) (by kernel_rfl) (by kernel_rfl) rfl (by omega) (by simp only [List.length_map]; omega) (by omega)) ?_
      refine Xg.any_reads (uv (xx1.snd.getD (16383 : Nat) (0 : Int))) 22 5 (by kernel_rfl) rfl (by kernel_rfl) (by kernel_rfl) (by kernel_rfl) (by kernel_rfl) rfl rfl (by kernel_rfl) (Xg.rd_now 4 (Xg.reads_own (E := ((5 : TypeId))) (sz := ((1 : Nat))) (n := n) (c := n) (a := xx1.fst) (vs := (List.map (Value.int IntKind.u8) xx1.snd))) (by kernel_rfl)) (Xg.run_load_rd (off0 := (offA xx1.fst + (16383 : Nat))) ((16383 : Nat)) (by kernel_rfl) (by omega) (Xg.get_ints (by omega)) (by kernel_rfl)) ?_
      refine Xg.any_each [19] (by kernel_rfl) rfl ⟨?_, trivial⟩
      refine Xg.comes_act rfl (by kernel_rfl) (by kernel_rfl) (Xg.opx_call1' [0, 1, 2, 3] [CR xx2.fst h xx2.snd.snd.fst n xx2.snd.snd.snd.fst xx2.snd.snd.snd.snd (512 : Nat) (512 : Nat) (V2 xx2.snd.fst), bts xx2.snd.snd.fst n xx2.snd.snd.snd.fst xx1.snd, bts xx2.snd.snd.snd.snd (512 : Nat) (512 : Nat) (List.replicate (512 : Nat) (0 : Int)), MR2 xx2.snd.fst (regW2 (Rg.mk (0 : Int) (1 : Int) (0 : Int) (0 : Int) (0 : Int)) ((8448 : Int) + pickI at0 (256 : Int)) (1 : Int)), bts xx1.fst n n xx1.snd, A, row xb1 (26 : Nat) [iv 5, iv (pickI cd (4 : Int)), iv 0, iv sd, iv 0, Value.slice none (0 : Nat) (0 : Nat), Value.slice none (0 : Nat) (0 : Nat), Value.bool false], TyP te ta tc] (fun _ => by kernel_rfl) (@hz3 ) (by kernel_rfl) (by kernel_rfl) (by kernel_rfl) ?_)
      refine Xg.acts (Xg.owes_skip (by kernel_rfl) (Xg.owes_skip (by kernel_rfl) (Xg.owes_skip (by kernel_rfl) (Xg.owes_skip (by kernel_rfl) (Xg.owes_rd 4 (Xg.reads_own (E := ((5 : TypeId))) (sz := ((1 : Nat))) (n := n) (c := n) (a := xx1.fst) (vs := (List.map (Value.int IntKind.u8) xx1.snd))) (by kernel_rfl) (Xg.owes_rd 4 (Xg.reads_own (E := ((5 : TypeId))) (sz := ((1 : Nat))) (n := n) (c := n) (a := xx1.fst) (vs := (List.map (Value.int IntKind.u8) xx1.snd))) (by kernel_rfl) (Xg.owes_rd 4 (Xg.reads_own (E := ((5 : TypeId))) (sz := ((1 : Nat))) (n := n) (c := n) (a := xx1.fst) (vs := (List.map (Value.int IntKind.u8) xx1.snd))) (by kernel_rfl) (Xg.owes_rd 4 (Xg.reads_own (E := ((5 : TypeId))) (sz := ((1 : Nat))) (n := n) (c := n) (a := xx1.fst) (vs := (List.map (Value.int IntKind.u8) xx1.snd))) (by kernel_rfl) Xg.owes_nil)))))))) ?_
      refine Xg.any_pure (.bool (decide (((xx1.snd.getD (16383 : Nat) (0 : Int)) : Int) = (xx1.snd.getD (16383 : Nat) (0 : Int))))) 23 (by kernel_rfl) rfl (by kernel_rfl) (by kernel_rfl) (by kernel_rfl) (by kernel_rfl) rfl (fun _ => by kernel_rfl) ?_
      refine Xg.any_flag (j := 154) (c := (decide (xx1.snd.getD (16383 : Nat) (0 : Int) = xx1.snd.getD (16383 : Nat) (0 : Int)))) (by kernel_rfl) (fun _ => ?_) (fun xh3 => absurd (of_decide_eq_false xh3) (by omega))
      refine Xg.any_pure ((Value.bool true)) 24 (by kernel_rfl) rfl (by kernel_rfl) (by kernel_rfl) (by kernel_rfl) (by kernel_rfl) rfl (fun _ => by kernel_rfl) ?_
      refine Xg.any_pure ((Value.bool true)) 25 (by kernel_rfl) rfl (by kernel_rfl) (by kernel_rfl) (by kernel_rfl) (by kernel_rfl) rfl (fun _ => by kernel_rfl) ?_
      refine Xg.any_pure ((pv xx2.fst 0)) 26 (by kernel_rfl) rfl (by kernel_rfl) (by kernel_rfl) (by kernel_rfl) (by kernel_rfl) rfl (fun _ => by kernel_rfl) ?_
      refine Xg.any_pure ((Value.slice xx1.fst n n)) 28 (by kernel_rfl) rfl (by kernel_rfl) (by kernel_rfl) (by kernel_rfl) (by kernel_rfl) rfl (fun _ => by kernel_rfl) ?_
      refine Xg.any_pure ((iv 1)) 29 (by kernel_rfl) rfl (by kernel_rfl) (by kernel_rfl) (by kernel_rfl) (by kernel_rfl) rfl (fun _ => by kernel_rfl) ?_
      refine Xg.any_pure ((iv 16384)) 30 (by kernel_rfl) rfl (by kernel_rfl) (by kernel_rfl) (by kernel_rfl) (by kernel_rfl) rfl (fun _ => by kernel_rfl) ?_
      refine Xg.any_pure ((iv 32767)) 31 (by kernel_rfl) rfl (by kernel_rfl) (by kernel_rfl) (by kernel_rfl) (by kernel_rfl) rfl (fun _ => by kernel_rfl) ?_
      refine Xg.any_reads (.pointer (some (Addr.mk (Xg.blk xx1.fst) (offA xx1.fst + (32767 : Nat)) none))) 32 6 (by kernel_rfl) rfl (by kernel_rfl) (by kernel_rfl) (by kernel_rfl) (by kernel_rfl) rfl rfl (by kernel_rfl) (Xg.rd_now 4 (Xg.reads_own (E := ((5 : TypeId))) (sz := ((1 : Nat))) (n := n) (c := n) (a := xx1.fst) (vs := (List.map (Value.int IntKind.u8) xx1.snd))) (by kernel_rfl)) (Xg.run_ix_rd (elem := 5) (kd := .i64) (e := ((32767 : Int))) 1 ((32767 : Nat)) (offA xx1.fst + (32767 : Nat)) (by kernel_rfl) (by kernel_rfl) (by kernel_rfl) (by kernel_rfl) rfl (by omega) (by simp only [List.length_map]; omega) (by omega)) ?_
      refine Xg.any_reads (uv (xx1.snd.getD (32767 : Nat) (0 : Int))) 33 7 (by kernel_rfl) rfl (by kernel_rfl) (by kernel_rfl) (by kernel_rfl) (by kernel_rfl) rfl rfl (by kernel_rfl) (Xg.rd_now 4 (Xg.reads_own (E := ((5 : TypeId))) (sz := ((1 : Nat))) (n := n) (c := n) (a := xx1.fst) (vs := (List.map (Value.int IntKind.u8) xx1.snd))) (by kernel_rfl)) (Xg.run_load_rd (off0 := (offA xx1.fst + (32767 : Nat))) ((32767 : Nat)) (by kernel_rfl) (by omega) (Xg.get_ints (by omega)) (by kernel_rfl)) ?_
      refine Xg.any_each [27] (by kernel_rfl) rfl ⟨?_, trivial⟩
      refine Xg.comes_act rfl (by kernel_rfl) (by kernel_rfl) (Xg.opx_call1' [0, 1, 2, 3] [CR xx2.fst h xx2.snd.snd.fst n xx2.snd.snd.snd.fst xx2.snd.snd.snd.snd (512 : Nat) (512 : Nat) (V2 xx2.snd.fst), bts xx2.snd.snd.fst n xx2.snd.snd.snd.fst xx1.snd, bts xx2.snd.snd.snd.snd (512 : Nat) (512 : Nat) (List.replicate (512 : Nat) (0 : Int)), MR2 xx2.snd.fst (regW2 (Rg.mk (0 : Int) (1 : Int) (0 : Int) (0 : Int) (0 : Int)) ((8448 : Int) + pickI at0 (256 : Int)) (1 : Int)), bts xx1.fst n n xx1.snd, A, row xb1 (26 : Nat) [iv 5, iv (pickI cd (4 : Int)), iv 0, iv sd, iv 0, Value.slice none (0 : Nat) (0 : Nat), Value.slice none (0 : Nat) (0 : Nat), Value.bool false], TyP te ta tc] (fun _ => by kernel_rfl) (@hz4 ) (by kernel_rfl) (by kernel_rfl) (by kernel_rfl) ?_)
      refine Xg.acts (Xg.owes_skip (by kernel_rfl) (Xg.owes_skip (by kernel_rfl) (Xg.owes_skip (by kernel_rfl) (Xg.owes_skip (by kernel_rfl) (Xg.owes_skip (by kernel_rfl) (Xg.owes_skip (by kernel_rfl) (Xg.owes_rd 4 (Xg.reads_own (E := ((5 : TypeId))) (sz := ((1 : Nat))) (n := n) (c := n) (a := xx1.fst) (vs := (List.map (Value.int IntKind.u8) xx1.snd))) (by kernel_rfl) (Xg.owes_rd 4 (Xg.reads_own (E := ((5 : TypeId))) (sz := ((1 : Nat))) (n := n) (c := n) (a := xx1.fst) (vs := (List.map (Value.int IntKind.u8) xx1.snd))) (by kernel_rfl) Xg.owes_nil)))))))) ?_
      refine Xg.any_pure (.bool (decide (((xx1.snd.getD (32767 : Nat) (0 : Int)) : Int) = (xx1.snd.getD (32767 : Nat) (0 : Int))))) 34 (by kernel_rfl) rfl (by kernel_rfl) (by kernel_rfl) (by kernel_rfl) (by kernel_rfl) rfl (fun _ => by kernel_rfl) ?_
      refine Xg.any_flag (j := 165) (c := (decide (xx1.snd.getD (32767 : Nat) (0 : Int) = xx1.snd.getD (32767 : Nat) (0 : Int)))) (by kernel_rfl) (fun _ => ?_) (fun xh3 => absurd (of_decide_eq_false xh3) (by omega))
      refine Xg.any_pure ((Value.bool true)) 35 (by kernel_rfl) rfl (by kernel_rfl) (by kernel_rfl) (by kernel_rfl) (by kernel_rfl) rfl (fun _ => by kernel_rfl) ?_
      refine Xg.any_pure ((Value.bool true)) 36 (by kernel_rfl) rfl (by kernel_rfl) (by kernel_rfl) (by kernel_rfl) (by kernel_rfl) rfl (fun _ => by kernel_rfl) ?_
      refine Xg.any_nil (by kernel_rfl) ?_
      refine Xg.at_ret_ps (v := (Value.bool true)) [5, 7] [A, TyP te ta tc] Go.Proofs.Tryd.func4 (fun _ => by kernel_rfl) (by kernel_rfl) (by kernel_rfl) ?_
      exact ⟨by kernel_rfl, by kernel_rfl⟩)
  · (focus
      refine Xg.ops_op (by kernel_rfl) (Xg.opx_callE' [0] (fun xx2 => [CR xx2.fst h xx2.snd.snd.fst n xx2.snd.snd.snd.fst xx2.snd.snd.snd.snd (512 : Nat) (512 : Nat) (V2 xx2.snd.fst), bts xx2.snd.snd.fst n xx2.snd.snd.snd.fst xx1.snd, bts xx2.snd.snd.snd.snd (512 : Nat) (512 : Nat) (List.replicate (512 : Nat) (0 : Int)), MR2 xx2.snd.fst rg0, bts xx1.fst n n xx1.snd, A, row xb1 (26 : Nat) [iv 5, iv (pickI cd (4 : Int)), iv 0, iv sd, iv 0, Value.slice none (0 : Nat) (0 : Nat), Value.slice none (0 : Nat) (0 : Nat), Value.bool false], TyP te ta tc]) (fun _ => by kernel_rfl) (@hnw ) (by kernel_rfl) (by kernel_rfl) (by kernel_rfl) fun xx2 xh2 => ?_)
      try dsimp only at xh2
      refine Xg.ops_op (by kernel_rfl) (Xg.opx_pure ((Value.tuple #[pv xx2.fst 0, iv 0])) rfl (fun _ => by kernel_rfl) ?_)
      refine Xg.ops_op (by kernel_rfl) (Xg.opx_pure ((pv xx2.fst 0)) rfl (fun _ => by kernel_rfl) ?_)
      refine Xg.ops_op (by kernel_rfl) (Xg.opx_pure ((iv 0)) rfl (fun _ => by kernel_rfl) ?_)
      refine Xg.ops_op (by kernel_rfl) (Xg.opx_pure ((pv xx2.fst 0)) rfl (fun _ => by kernel_rfl) ?_)
      refine Xg.ops_op (by kernel_rfl) (Xg.opx_pure ((iv 0)) rfl (fun _ => by kernel_rfl) ?_)
      refine Xg.ops_nil ?_
      refine Xg.at_seq ?_
      refine Xg.at_seq ?_
      refine Xg.at_region ?_
      refine Xg.ops_op (by kernel_rfl) (Xg.opx_pure ((pv xx2.fst 0)) rfl (fun _ => by kernel_rfl) ?_)
      refine Xg.ops_op (by kernel_rfl) (Xg.opx_pure ((Value.bool false)) rfl (fun _ => by kernel_rfl) ?_)
      refine Xg.ops_op (by kernel_rfl) (Xg.opx_pure ((Value.bool false)) rfl (fun _ => by kernel_rfl) ?_)
      refine Xg.ops_op (by kernel_rfl) (Xg.opx_pure ((iv 0)) rfl (fun _ => by kernel_rfl) ?_)
      refine Xg.ops_op (by kernel_rfl) (Xg.opx_pure ((Value.bool false)) rfl (fun _ => by kernel_rfl) ?_)
      refine Xg.ops_op (by kernel_rfl) (Xg.opx_pure ((Value.bool false)) rfl (fun _ => by kernel_rfl) ?_)
      refine Xg.ops_nil ?_
      refine Xg.at_false (t := false) (by kernel_rfl) rfl ?_
      refine Xg.at_skip ?_
      refine Xg.at_seq ?_
      refine Xg.at_region ?_
      refine Xg.ops_op (by kernel_rfl) (Xg.opx_pure ((iv (pickI cd (4 : Int)))) rfl (fun _ => by kernel_rfl) ?_)
      refine Xg.ops_op (by kernel_rfl) (Xg.opx_run (.int .i64 (IntKind.wrap .i64 (((2 : Int)) * 2 ^ min (Int.toNat (pickI cd (4 : Int))) (IntKind.bits .i64)))) rfl (fun _ => Xg.run_shl (k1 := .i64) (k2 := .i64) (m := ((2 : Int))) (e := (pickI cd (4 : Int))) (by kernel_rfl) (by kernel_rfl) (by omega)) ?_)
      refine Xg.ops_op (by kernel_rfl) (Xg.opx_pure ((iv (IntKind.i64.wrap ((2 : Int) * (2 : Int) ^ min (pickI cd (4 : Int)).toNat IntKind.i64.bits)))) rfl (fun _ => by kernel_rfl) ?_)
      refine Xg.ops_nil ?_
      refine Xg.at_seq ?_
      refine Xg.at_region ?_
      refine Xg.ops_op (by kernel_rfl) (Xg.opx_pure ((iv bk)) rfl (fun _ => by kernel_rfl) ?_)
      refine Xg.ops_op (by kernel_rfl) (Xg.opx_pure ((iv (IntKind.i64.wrap ((2 : Int) * (2 : Int) ^ min (pickI cd (4 : Int)).toNat IntKind.i64.bits)))) rfl (fun _ => by kernel_rfl) ?_)
      refine Xg.ops_op (by kernel_rfl) (Xg.opx_call1' [] [CR xx2.fst h xx2.snd.snd.fst n xx2.snd.snd.snd.fst xx2.snd.snd.snd.snd (512 : Nat) (512 : Nat) (V2 xx2.snd.fst), bts xx2.snd.snd.fst n xx2.snd.snd.snd.fst xx1.snd, bts xx2.snd.snd.snd.snd (512 : Nat) (512 : Nat) (List.replicate (512 : Nat) (0 : Int)), MR2 xx2.snd.fst rg0, bts xx1.fst n n xx1.snd, A, row xb1 (26 : Nat) [iv 5, iv (pickI cd (4 : Int)), iv 0, iv sd, iv 0, Value.slice none (0 : Nat) (0 : Nat), Value.slice none (0 : Nat) (0 : Nat), Value.bool false], TyP te ta tc] (fun _ => by kernel_rfl) (@hpb ) (by kernel_rfl) (by kernel_rfl) (by kernel_rfl) ?_)
      refine Xg.ops_op (by kernel_rfl) (Xg.opx_pure ((iv (↑kn : Int))) rfl (fun _ => by kernel_rfl) ?_)
      refine Xg.ops_nil ?_
      refine Xg.at_seq ?_
      refine Xg.at_seq ?_
      refine Xg.at_region ?_
      refine Xg.ops_op (by kernel_rfl) (Xg.opx_pure ((iv 5)) rfl (fun _ => by kernel_rfl) ?_)
      refine Xg.ops_nil ?_
      refine Xg.at_block ?_
      refine Xg.at_seq ?_
      refine Xg.at_region ?_
      refine Xg.ops_op (by kernel_rfl) (Xg.opx_pure ((Value.bool false)) rfl (fun _ => by kernel_rfl) ?_)
      refine Xg.ops_op (by kernel_rfl) (Xg.opx_pure ((Value.bool false)) rfl (fun _ => by kernel_rfl) ?_)
      refine Xg.ops_nil ?_
      refine Xg.at_false (t := false) (by kernel_rfl) rfl ?_
      refine Xg.at_seq ?_
      refine Xg.at_region ?_
      refine Xg.ops_op (by kernel_rfl) (Xg.opx_pure ((Value.bool false)) rfl (fun _ => by kernel_rfl) ?_)
      refine Xg.ops_op (by kernel_rfl) (Xg.opx_pure ((Value.bool false)) rfl (fun _ => by kernel_rfl) ?_)
      refine Xg.ops_nil ?_
      refine Xg.at_false (t := false) (by kernel_rfl) rfl ?_
      refine Xg.at_seq ?_
      refine Xg.at_region ?_
      refine Xg.ops_op (by kernel_rfl) (Xg.opx_pure ((Value.bool true)) rfl (fun _ => by kernel_rfl) ?_)
      refine Xg.ops_op (by kernel_rfl) (Xg.opx_pure ((Value.bool true)) rfl (fun _ => by kernel_rfl) ?_)
      refine Xg.ops_nil ?_
      refine Xg.at_true (t := true) (by kernel_rfl) rfl ?_
      refine Xg.at_seq ?_
      refine Xg.at_seq ?_
      refine Xg.at_region ?_
      refine Xg.ops_op (by kernel_rfl) (Xg.opx_pure ((iv (↑kn : Int))) rfl (fun _ => by kernel_rfl) ?_)
      refine Xg.ops_op (by kernel_rfl) (Xg.opx_pure (.bool (decide ((((↑kn : Int)) : Int) = ((0 : Int))))) rfl (fun _ => by kernel_rfl) ?_)
      refine Xg.ops_nil ?_
      refine Xg.at_false (t := decide (((↑kn : Int) = (0 : Int)))) (by kernel_rfl) (decide_eq_false (by omega)) ?_
      refine Xg.at_skip ?_
      refine Xg.at_region ?_
      refine Xg.ops_op (by kernel_rfl) (Xg.opx_pure ((pv xx2.fst 0)) rfl (fun _ => by kernel_rfl) ?_)
      refine Xg.ops_op (by kernel_rfl) (Xg.opx_pure ((iv at0)) rfl (fun _ => by kernel_rfl) ?_))
    obtain ⟨hhigh, hlow⟩ := bank2 (pickI at0 256) (kn : Int) hl2 ⟨by omega, by omega⟩
    have hrok : (regW2 (⟨0, 1, 0, 0, 0⟩ : Rg) (8448 + pickI at0 256) (kn : Int)).Ok := regW2_ok (show (⟨0, 1, 0, 0, 0⟩ : Rg).Ok from ⟨by decide, by decide, by decide, by decide, by decide⟩) _ _ ⟨by omega, by omega⟩
    have hw1 := writeR2_d xx2.1 xx2.2.1 h (⟨0, 1, 0, 0, 0⟩ : Rg) xx2.2.2.1 n xx2.2.2.2.1 xx2.2.2.2.2 512 512 xx1.2 (List.replicate 512 0)
    have hkb : ((kn : Nat) : Int) < h.bk := by rw [hbk2]; omega
    have hz1 := read2_d xx2.1 xx2.2.1 h (regW2 (⟨0, 1, 0, 0, 0⟩ : Rg) (8448 + pickI at0 256) (kn : Int)) xx2.2.2.1 n xx2.2.2.2.1 xx2.2.2.2.2 512 512 xx1.2 (List.replicate 512 0) (i : Int) ⟨by omega, by omega⟩ hrok (by rw [hbk2]; omega) xh1.l (by rw [hbk2]; omega) xh2 (List.length_replicate) (Nat.le_refl _) (isB_rep _) hmp (Or.inr (Or.inl ⟨rfl, rfl⟩))
    rw [read_low 2 (regW2 (⟨0, 1, 0, 0, 0⟩ : Rg) (8448 + pickI at0 256) (kn : Int)) h.bk xx1.2 _ i hlow (by omega)] at hz1
    have hz2 := read2_d xx2.1 xx2.2.1 h (regW2 (⟨0, 1, 0, 0, 0⟩ : Rg) (8448 + pickI at0 256) (kn : Int)) xx2.2.2.1 n xx2.2.2.2.1 xx2.2.2.2.2 512 512 xx1.2 (List.replicate 512 0) (16384 + (i : Int)) ⟨by omega, by omega⟩ hrok (by rw [hbk2]; omega) xh1.l (by rw [hbk2]; omega) xh2 (List.length_replicate) (Nat.le_refl _) (isB_rep _) hmp (Or.inr (Or.inl ⟨rfl, rfl⟩))
    rw [read_high 2 (regW2 (⟨0, 1, 0, 0, 0⟩ : Rg) (8448 + pickI at0 256) (kn : Int)) h.bk xx1.2 _ kn i hhigh hkb (by omega)] at hz2
    have hz3 := read2_d xx2.1 xx2.2.1 h (regW2 (⟨0, 1, 0, 0, 0⟩ : Rg) (8448 + pickI at0 256) (kn : Int)) xx2.2.2.1 n xx2.2.2.2.1 xx2.2.2.2.2 512 512 xx1.2 (List.replicate 512 0) 16383 ⟨by decide, by decide⟩ hrok (by rw [hbk2]; omega) xh1.l (by rw [hbk2]; omega) xh2 (List.length_replicate) (Nat.le_refl _) (isB_rep _) hmp (Or.inr (Or.inl ⟨rfl, rfl⟩))
    rw [read_low' 2 (regW2 (⟨0, 1, 0, 0, 0⟩ : Rg) (8448 + pickI at0 256) (kn : Int)) h.bk xx1.2 _ hlow] at hz3
    have hz4 := read2_d xx2.1 xx2.2.1 h (regW2 (⟨0, 1, 0, 0, 0⟩ : Rg) (8448 + pickI at0 256) (kn : Int)) xx2.2.2.1 n xx2.2.2.2.1 xx2.2.2.2.2 512 512 xx1.2 (List.replicate 512 0) 32767 ⟨by decide, by decide⟩ hrok (by rw [hbk2]; omega) xh1.l (by rw [hbk2]; omega) xh2 (List.length_replicate) (Nat.le_refl _) (isB_rep _) hmp (Or.inr (Or.inl ⟨rfl, rfl⟩))
    rw [read_high' 2 (regW2 (⟨0, 1, 0, 0, 0⟩ : Rg) (8448 + pickI at0 256) (kn : Int)) h.bk xx1.2 _ kn hhigh hkb] at hz4
    have hg1 : xx1.2.getD ((16384 : Int) * (kn : Int) + (i : Int)).toNat 0 = xx1.2.getD (16384 * kn + i) 0 := by first | rfl | (congr 1; omega)
    have hg2 : xx1.2.getD ((16384 : Int) * (kn : Int) + 16383).toNat 0 = xx1.2.getD (16384 * kn + 16383) 0 := by first | rfl | (congr 1; omega)
    rw [← hg1] at hz2
    rw [← hg2] at hz4
    (focus
      refine Xg.ops_op (by kernel_rfl) (Xg.opx_call1' [] [CR xx2.fst h xx2.snd.snd.fst n xx2.snd.snd.snd.fst xx2.snd.snd.snd.snd (512 : Nat) (512 : Nat) (V2 xx2.snd.fst), bts xx2.snd.snd.fst n xx2.snd.snd.snd.fst xx1.snd, bts xx2.snd.snd.snd.snd (512 : Nat) (512 : Nat) (List.replicate (512 : Nat) (0 : Int)), MR2 xx2.snd.fst rg0, bts xx1.fst n n xx1.snd, A, row xb1 (26 : Nat) [iv 5, iv (pickI cd (4 : Int)), iv 0, iv sd, iv 0, Value.slice none (0 : Nat) (0 : Nat), Value.slice none (0 : Nat) (0 : Nat), Value.bool false], TyP te ta tc] (fun _ => by kernel_rfl) (@hp2 ) (by kernel_rfl) (by kernel_rfl) (by kernel_rfl) ?_)
      refine Xg.ops_op (by kernel_rfl) (Xg.opx_int .i64 (IntKind.wrap .i64 (((8448 : Int) + pickI at0 (256 : Int)))) rfl (fun _ => by kernel_rfl) (Xg.wrap_i64_in (by omega)) ?_)
      refine Xg.ops_op (by kernel_rfl) (Xg.opx_pure ((iv (↑kn : Int))) rfl (fun _ => by kernel_rfl) ?_)
      refine Xg.ops_op (by kernel_rfl) (Xg.opx_int .u8 (IntKind.wrap .u8 (((↑kn : Int)))) rfl (fun _ => by kernel_rfl) (Xg.wrap_u8_in (by omega)) ?_)
      refine Xg.ops_op (by kernel_rfl) (Xg.opx_call1' [0, 1, 2, 3] [CR xx2.fst h xx2.snd.snd.fst n xx2.snd.snd.snd.fst xx2.snd.snd.snd.snd (512 : Nat) (512 : Nat) (V2 xx2.snd.fst), bts xx2.snd.snd.fst n xx2.snd.snd.snd.fst xx1.snd, bts xx2.snd.snd.snd.snd (512 : Nat) (512 : Nat) (List.replicate (512 : Nat) (0 : Int)), MR2 xx2.snd.fst (regW2 (Rg.mk (0 : Int) (1 : Int) (0 : Int) (0 : Int) (0 : Int)) ((8448 : Int) + pickI at0 (256 : Int)) (↑kn : Int)), bts xx1.fst n n xx1.snd, A, row xb1 (26 : Nat) [iv 5, iv (pickI cd (4 : Int)), iv 0, iv sd, iv 0, Value.slice none (0 : Nat) (0 : Nat), Value.slice none (0 : Nat) (0 : Nat), Value.bool false], TyP te ta tc] (fun _ => by kernel_rfl) (@hw1 (((8448 : Int) + pickI at0 (256 : Int))) (((↑kn : Int))) (by omega) (by omega)) (by kernel_rfl) (by kernel_rfl) (by kernel_rfl) ?_)
      refine Xg.ops_nil ?_
      refine Xg.at_inBlock ?_
      refine Xg.at_seq ?_
      refine Xg.at_region ?_
      refine Xg.ops_op (by kernel_rfl) (Xg.opx_pure ((iv at0)) rfl (fun _ => by kernel_rfl) ?_)
      refine Xg.ops_op (by kernel_rfl) (Xg.opx_call1' [] [CR xx2.fst h xx2.snd.snd.fst n xx2.snd.snd.snd.fst xx2.snd.snd.snd.snd (512 : Nat) (512 : Nat) (V2 xx2.snd.fst), bts xx2.snd.snd.fst n xx2.snd.snd.snd.fst xx1.snd, bts xx2.snd.snd.snd.snd (512 : Nat) (512 : Nat) (List.replicate (512 : Nat) (0 : Int)), MR2 xx2.snd.fst (regW2 (Rg.mk (0 : Int) (1 : Int) (0 : Int) (0 : Int) (0 : Int)) ((8448 : Int) + pickI at0 (256 : Int)) (↑kn : Int)), bts xx1.fst n n xx1.snd, A, row xb1 (26 : Nat) [iv 5, iv (pickI cd (4 : Int)), iv 0, iv sd, iv 0, Value.slice none (0 : Nat) (0 : Nat), Value.slice none (0 : Nat) (0 : Nat), Value.bool false], TyP te ta tc] (fun _ => by kernel_rfl) (@hpa ) (by kernel_rfl) (by kernel_rfl) (by kernel_rfl) ?_)
      refine Xg.ops_op (by kernel_rfl) (Xg.opx_pure ((iv (↑i : Int))) rfl (fun _ => by kernel_rfl) ?_)
      refine Xg.ops_nil ?_
      refine Xg.at_seq ?_
      refine Xg.at_region ?_
      refine Xg.ops_op (by kernel_rfl) (Xg.opx_pure ((pv xx2.fst 0)) rfl (fun _ => by kernel_rfl) ?_)
      refine Xg.ops_op (by kernel_rfl) (Xg.opx_pure ((iv (↑i : Int))) rfl (fun _ => by kernel_rfl) ?_)
      refine Xg.ops_op (by kernel_rfl) (Xg.opx_call1' [0, 1, 2, 3] [CR xx2.fst h xx2.snd.snd.fst n xx2.snd.snd.snd.fst xx2.snd.snd.snd.snd (512 : Nat) (512 : Nat) (V2 xx2.snd.fst), bts xx2.snd.snd.fst n xx2.snd.snd.snd.fst xx1.snd, bts xx2.snd.snd.snd.snd (512 : Nat) (512 : Nat) (List.replicate (512 : Nat) (0 : Int)), MR2 xx2.snd.fst (regW2 (Rg.mk (0 : Int) (1 : Int) (0 : Int) (0 : Int) (0 : Int)) ((8448 : Int) + pickI at0 (256 : Int)) (↑kn : Int)), bts xx1.fst n n xx1.snd, A, row xb1 (26 : Nat) [iv 5, iv (pickI cd (4 : Int)), iv 0, iv sd, iv 0, Value.slice none (0 : Nat) (0 : Nat), Value.slice none (0 : Nat) (0 : Nat), Value.bool false], TyP te ta tc] (fun _ => by kernel_rfl) (@hz1 ) (by kernel_rfl) (by kernel_rfl) (by kernel_rfl) ?_)
      refine Xg.ops_op (by kernel_rfl) (Xg.opx_pure ((uv (xx1.snd.getD i (0 : Int)))) rfl (fun _ => by kernel_rfl) ?_)
      refine Xg.ops_nil ?_
      refine Xg.at_seq ?_
      refine Xg.at_region ?_
      refine Xg.ops_op (by kernel_rfl) (Xg.opx_pure ((pv xx2.fst 0)) rfl (fun _ => by kernel_rfl) ?_)
      refine Xg.ops_op (by kernel_rfl) (Xg.opx_pure ((iv (↑i : Int))) rfl (fun _ => by kernel_rfl) ?_)
      refine Xg.ops_op (by kernel_rfl) (Xg.opx_int .i64 (IntKind.wrap .i64 (((16384 : Int) + (↑i : Int)))) rfl (fun _ => by kernel_rfl) (Xg.wrap_i64_in (by omega)) ?_)
      refine Xg.ops_op (by kernel_rfl) (Xg.opx_call1' [0, 1, 2, 3] [CR xx2.fst h xx2.snd.snd.fst n xx2.snd.snd.snd.fst xx2.snd.snd.snd.snd (512 : Nat) (512 : Nat) (V2 xx2.snd.fst), bts xx2.snd.snd.fst n xx2.snd.snd.snd.fst xx1.snd, bts xx2.snd.snd.snd.snd (512 : Nat) (512 : Nat) (List.replicate (512 : Nat) (0 : Int)), MR2 xx2.snd.fst (regW2 (Rg.mk (0 : Int) (1 : Int) (0 : Int) (0 : Int) (0 : Int)) ((8448 : Int) + pickI at0 (256 : Int)) (↑kn : Int)), bts xx1.fst n n xx1.snd, A, row xb1 (26 : Nat) [iv 5, iv (pickI cd (4 : Int)), iv 0, iv sd, iv 0, Value.slice none (0 : Nat) (0 : Nat), Value.slice none (0 : Nat) (0 : Nat), Value.bool false], TyP te ta tc] (fun _ => by kernel_rfl) (@hz2 ) (by kernel_rfl) (by kernel_rfl) (by kernel_rfl) ?_)
      refine Xg.ops_op (by kernel_rfl) (Xg.opx_pure ((uv (xx1.snd.getD ((16384 : Int) * (↑kn : Int) + (↑i : Int)).toNat (0 : Int)))) rfl (fun _ => by kernel_rfl) ?_)
      refine Xg.ops_nil ?_
      refine Xg.at_seq ?_
      refine Xg.at_draw [19, 27] [(3, [0, 1, 2, 3], (RdIs (1 : Nat) (Value.slice xx1.fst n n) n (List.map (Value.int IntKind.u8) xx1.snd))), (4, [0, 1, 2, 3, 4], (RdIs (1 : Nat) (Value.slice xx1.fst n n) n (List.map (Value.int IntKind.u8) xx1.snd))), (13, [0, 1, 2, 3, 4, 5, 6, 7, 8, 9, 10, 11, 12, 13], (RdIs (1 : Nat) (Value.slice xx1.fst n n) n (List.map (Value.int IntKind.u8) xx1.snd))), (14, [0, 1, 2, 3, 4, 5, 6, 7, 8, 9, 10, 11, 12, 13, 14], (RdIs (1 : Nat) (Value.slice xx1.fst n n) n (List.map (Value.int IntKind.u8) xx1.snd))), (21, [0, 1, 2, 3, 4, 5, 6, 7, 8, 9, 10, 11, 12, 13, 14, 15, 16, 17, 18, 19, 20, 21], (RdIs (1 : Nat) (Value.slice xx1.fst n n) n (List.map (Value.int IntKind.u8) xx1.snd))), (22, [0, 1, 2, 3, 4, 5, 6, 7, 8, 9, 10, 11, 12, 13, 14, 15, 16, 17, 18, 19, 20, 21, 22], (RdIs (1 : Nat) (Value.slice xx1.fst n n) n (List.map (Value.int IntKind.u8) xx1.snd))), (32, [0, 1, 2, 3, 4, 5, 6, 7, 8, 9, 10, 11, 12, 13, 14, 15, 16, 17, 18, 19, 20, 21, 22, 23, 24, 25, 26, 27, 28, 29, 30, 31, 32], (RdIs (1 : Nat) (Value.slice xx1.fst n n) n (List.map (Value.int IntKind.u8) xx1.snd))), (33, [0, 1, 2, 3, 4, 5, 6, 7, 8, 9, 10, 11, 12, 13, 14, 15, 16, 17, 18, 19, 20, 21, 22, 23, 24, 25, 26, 27, 28, 29, 30, 31, 32, 33], (RdIs (1 : Nat) (Value.slice xx1.fst n n) n (List.map (Value.int IntKind.u8) xx1.snd)))] (by kernel_rfl) ?_
      refine Xg.any_pure ((uv (xx1.snd.getD i (0 : Int)))) 0 (by kernel_rfl) rfl (by kernel_rfl) (by kernel_rfl) (by kernel_rfl) (by kernel_rfl) rfl (fun _ => by kernel_rfl) ?_
      refine Xg.any_pure ((Value.slice xx1.fst n n)) 1 (by kernel_rfl) rfl (by kernel_rfl) (by kernel_rfl) (by kernel_rfl) (by kernel_rfl) rfl (fun _ => by kernel_rfl) ?_
      refine Xg.any_pure ((iv (↑i : Int))) 2 (by kernel_rfl) rfl (by kernel_rfl) (by kernel_rfl) (by kernel_rfl) (by kernel_rfl) rfl (fun _ => by kernel_rfl) ?_
      refine Xg.any_reads (.pointer (some (Addr.mk (Xg.blk xx1.fst) (offA xx1.fst + i) none))) 3 0 (by kernel_rfl) rfl (by kernel_rfl) (by kernel_rfl) (by kernel_rfl) (by kernel_rfl) rfl rfl (by kernel_rfl) (Xg.rd_now 4 (Xg.reads_own (E := ((5 : TypeId))) (sz := ((1 : Nat))) (n := n) (c := n) (a := xx1.fst) (vs := (List.map (Value.int IntKind.u8) xx1.snd))) (by kernel_rfl)) (Xg.run_ix_rd (elem := 5) (kd := .i64) (e := ((↑i : Int))) 1 i (offA xx1.fst + i) (by kernel_rfl) (by kernel_rfl) (by kernel_rfl) (by kernel_rfl) rfl (by omega) (by simp only [List.length_map]; omega) (by omega)) ?_
      refine Xg.any_reads (uv (xx1.snd.getD i (0 : Int))) 4 1 (by kernel_rfl) rfl (by kernel_rfl) (by kernel_rfl) (by kernel_rfl) (by kernel_rfl) rfl rfl (by kernel_rfl) (Xg.rd_now 4 (Xg.reads_own (E := ((5 : TypeId))) (sz := ((1 : Nat))) (n := n) (c := n) (a := xx1.fst) (vs := (List.map (Value.int IntKind.u8) xx1.snd))) (by kernel_rfl)) (Xg.run_load_rd (off0 := (offA xx1.fst + i)) i (by kernel_rfl) (by omega) (Xg.get_ints (by omega)) (by kernel_rfl)) ?_
      refine Xg.any_pure (.bool (decide (((xx1.snd.getD i (0 : Int)) : Int) = (xx1.snd.getD i (0 : Int))))) 5 (by kernel_rfl) rfl (by kernel_rfl) (by kernel_rfl) (by kernel_rfl) (by kernel_rfl) rfl (fun _ => by kernel_rfl) ?_
      refine Xg.any_pure ((Value.bool (decide (xx1.snd.getD i (0 : Int) = xx1.snd.getD i (0 : Int))))) 6 (by kernel_rfl) rfl (by kernel_rfl) (by kernel_rfl) (by kernel_rfl) (by kernel_rfl) rfl (fun _ => by kernel_rfl) ?_
      refine Xg.any_flag (j := 137) (c := (decide (xx1.snd.getD i (0 : Int) = xx1.snd.getD i (0 : Int)))) (by kernel_rfl) (fun _ => ?_) (fun xh3 => absurd (of_decide_eq_false xh3) (by omega))
      refine Xg.any_pure ((uv (xx1.snd.getD ((16384 : Int) * (↑kn : Int) + (↑i : Int)).toNat (0 : Int)))) 7 (by kernel_rfl) rfl (by kernel_rfl) (by kernel_rfl) (by kernel_rfl) (by kernel_rfl) rfl (fun _ => by kernel_rfl) ?_
      refine Xg.any_pure ((Value.slice xx1.fst n n)) 8 (by kernel_rfl) rfl (by kernel_rfl) (by kernel_rfl) (by kernel_rfl) (by kernel_rfl) rfl (fun _ => by kernel_rfl) ?_
      refine Xg.any_pure ((iv (↑kn : Int))) 9 (by kernel_rfl) rfl (by kernel_rfl) (by kernel_rfl) (by kernel_rfl) (by kernel_rfl) rfl (fun _ => by kernel_rfl) ?_
      refine Xg.any_int .i64 (IntKind.wrap .i64 (((16384 : Int) * (↑kn : Int)))) 10 (by kernel_rfl) rfl (by kernel_rfl) (by kernel_rfl) (by kernel_rfl) (by kernel_rfl) rfl (fun _ => by kernel_rfl) (Xg.wrap_i64_in (by omega)) ?_
      refine Xg.any_pure ((iv (↑i : Int))) 11 (by kernel_rfl) rfl (by kernel_rfl) (by kernel_rfl) (by kernel_rfl) (by kernel_rfl) rfl (fun _ => by kernel_rfl) ?_
      refine Xg.any_int .i64 (IntKind.wrap .i64 (((16384 : Int) * (↑kn : Int) + (↑i : Int)))) 12 (by kernel_rfl) rfl (by kernel_rfl) (by kernel_rfl) (by kernel_rfl) (by kernel_rfl) rfl (fun _ => by kernel_rfl) (Xg.wrap_i64_in (by omega)) ?_
      refine Xg.any_reads (.pointer (some (Addr.mk (Xg.blk xx1.fst) (offA xx1.fst + ((16384 : Int) * (↑kn : Int) + (↑i : Int)).toNat) none))) 13 2 (by kernel_rfl) rfl (by kernel_rfl) (by kernel_rfl) (by kernel_rfl) (by kernel_rfl) rfl rfl (by kernel_rfl) (Xg.rd_now 4 (Xg.reads_own (E := ((5 : TypeId))) (sz := ((1 : Nat))) (n := n) (c := n) (a := xx1.fst) (vs := (List.map (Value.int IntKind.u8) xx1.snd))) (by kernel_rfl)) (Xg.run_ix_rd (elem := 5) (kd := .i64) (e := ((16384 : Int) * (↑kn : Int) + (↑i : Int))) 1 (((16384 : Int) * (↑kn : Int) + (↑i : Int)).toNat) (offA xx1.fst + ((16384 : Int) * (↑kn : Int) + (↑i : Int)).toNat) (by kernel_rfl) (by kernel_rfl) (by kernel_rfl) (by kernel_rfl) (by omega) (by omega) (by simp only [List.length_map]; omega) (by omega)) ?_
      refine Xg.any_reads (uv (xx1.snd.getD ((16384 : Int) * (↑kn : Int) + (↑i : Int)).toNat (0 : Int))) 14 3 (by kernel_rfl) rfl (by kernel_rfl) (by kernel_rfl) (by kernel_rfl) (by kernel_rfl) rfl rfl (by kernel_rfl) (Xg.rd_now 4 (Xg.reads_own (E := ((5 : TypeId))) (sz := ((1 : Nat))) (n := n) (c := n) (a := xx1.fst) (vs := (List.map (Value.int IntKind.u8) xx1.snd))) (by kernel_rfl)) (Xg.run_load_rd (off0 := (offA xx1.fst + ((16384 : Int) * (↑kn : Int) + (↑i : Int)).toNat)) (((16384 : Int) * (↑kn : Int) + (↑i : Int)).toNat) (by kernel_rfl) (by omega) (Xg.get_ints (by omega)) (by kernel_rfl)) ?_
      refine Xg.any_pure (.bool (decide (((xx1.snd.getD ((16384 : Int) * (↑kn : Int) + (↑i : Int)).toNat (0 : Int)) : Int) = (xx1.snd.getD ((16384 : Int) * (↑kn : Int) + (↑i : Int)).toNat (0 : Int))))) 15 (by kernel_rfl) rfl (by kernel_rfl) (by kernel_rfl) (by kernel_rfl) (by kernel_rfl) rfl (fun _ => by kernel_rfl) ?_
      refine Xg.any_flag (j := 146) (c := (decide (xx1.snd.getD ((16384 : Int) * (↑kn : Int) + (↑i : Int)).toNat (0 : Int) = xx1.snd.getD ((16384 : Int) * (↑kn : Int) + (↑i : Int)).toNat (0 : Int)))) (by kernel_rfl) (fun _ => ?_) (fun xh3 => absurd (of_decide_eq_false xh3) (by omega))
      refine Xg.any_pure ((Value.bool true)) 16 (by kernel_rfl) rfl (by kernel_rfl) (by kernel_rfl) (by kernel_rfl) (by kernel_rfl) rfl (fun _ => by kernel_rfl) ?_
      refine Xg.any_pure ((Value.bool true)) 17 (by kernel_rfl) rfl (by kernel_rfl) (by kernel_rfl) (by kernel_rfl) (by kernel_rfl) rfl (fun _ => by kernel_rfl) ?_
      refine Xg.any_pure ((pv xx2.fst 0)) 18 (by kernel_rfl) rfl (by kernel_rfl) (by kernel_rfl) (by kernel_rfl) (by kernel_rfl) rfl (fun _ => by kernel_rfl) ?_
      refine Xg.any_pure ((Value.slice xx1.fst n n)) 20 (by kernel_rfl) rfl (by kernel_rfl) (by kernel_rfl) (by kernel_rfl) (by kernel_rfl) rfl (fun _ => by kernel_rfl) ?_
      refine Xg.any_reads (.pointer (some (Addr.mk (Xg.blk xx1.fst) (offA xx1.fst + (16383 : Nat)) none))) 21 4 (by kernel_rfl) rfl (by kernel_rfl) (by kernel_rfl) (by kernel_rfl) (by kernel_rfl) rfl rfl (by kernel_rfl) (Xg.rd_now 4 (Xg.reads_own (E := ((5 : TypeId))) (sz := ((1 : Nat))) (n := n) (c := n) (a := xx1.fst) (vs := (List.map (Value.int IntKind.u8) xx1.snd))) (by kernel_rfl)) (Xg.run_ix_rd (elem := 5) (kd := .i64) (e := ((16383 : Int))) 1 ((16383 : Nat)) (offA xx1.fst + (16383 : Nat)) (by kernel_rfl) (by kernel_rfl) (by kernel_rfl) (by kernel_rfl) rfl (by omega) (by simp only [List.length_map]; omega) (by omega)) ?_
      refine Xg.any_reads (uv (xx1.snd.getD (16383 : Nat) (0 : Int))) 22 5 (by kernel_rfl) rfl (by kernel_rfl) (by kernel_rfl) (by kernel_rfl) (by kernel_rfl) rfl rfl (by kernel_rfl) (Xg.rd_now 4 (Xg.reads_own (E := ((5 : TypeId))) (sz := ((1 : Nat))) (n := n) (c := n) (a := xx1.fst) (vs := (List.map (Value.int IntKind.u8) xx1.snd))) (by kernel_rfl)) (Xg.run_load_rd (off0 := (offA xx1.fst + (16383 : Nat))) ((16383 : Nat)) (by kernel_rfl) (by omega) (Xg.get_ints (by omega)) (by kernel_rfl)) ?_
      refine Xg.any_each [19] (by kernel_rfl) rfl ⟨?_, trivial⟩
      refine Xg.comes_act rfl (by kernel_rfl) (by kernel_rfl) (Xg.opx_call1' [0, 1, 2, 3] [CR xx2.fst h xx2.snd.snd.fst n xx2.snd.snd.snd.fst xx2.snd.snd.snd.snd (512 : Nat) (512 : Nat) (V2 xx2.snd.fst), bts xx2.snd.snd.fst n xx2.snd.snd.snd.fst xx1.snd, bts xx2.snd.snd.snd.snd (512 : Nat) (512 : Nat) (List.replicate (512 : Nat) (0 : Int)), MR2 xx2.snd.fst (regW2 (Rg.mk (0 : Int) (1 : Int) (0 : Int) (0 : Int) (0 : Int)) ((8448 : Int) + pickI at0 (256 : Int)) (↑kn : Int)), bts xx1.fst n n xx1.snd, A, row xb1 (26 : Nat) [iv 5, iv (pickI cd (4 : Int)), iv 0, iv sd, iv 0, Value.slice none (0 : Nat) (0 : Nat), Value.slice none (0 : Nat) (0 : Nat), Value.bool false], TyP te ta tc] (fun _ => by kernel_rfl) (@hz3 ) (by kernel_rfl) (by kernel_rfl) (by kernel_rfl) ?_)
      refine Xg.acts (Xg.owes_skip (by kernel_rfl) (Xg.owes_skip (by kernel_rfl) (Xg.owes_skip (by kernel_rfl) (Xg.owes_skip (by kernel_rfl) (Xg.owes_rd 4 (Xg.reads_own (E := ((5 : TypeId))) (sz := ((1 : Nat))) (n := n) (c := n) (a := xx1.fst) (vs := (List.map (Value.int IntKind.u8) xx1.snd))) (by kernel_rfl) (Xg.owes_rd 4 (Xg.reads_own (E := ((5 : TypeId))) (sz := ((1 : Nat))) (n := n) (c := n) (a := xx1.fst) (vs := (List.map (Value.int IntKind.u8) xx1.snd))) (by kernel_rfl) (Xg.owes_rd 4 (Xg.reads_own (E := ((5 : TypeId))) (sz := ((1 : Nat))) (n := n) (c := n) (a := xx1.fst) (vs := (List.map (Value.int IntKind.u8) xx1.snd))) (by kernel_rfl) (Xg.owes_rd 4 (Xg.reads_own (E := ((5 : TypeId))) (sz := ((1 : Nat))) (n := n) (c := n) (a := xx1.fst) (vs := (List.map (Value.int IntKind.u8) xx1.snd))) (by kernel_rfl) Xg.owes_nil)))))))) ?_
      refine Xg.any_pure (.bool (decide (((xx1.snd.getD (16383 : Nat) (0 : Int)) : Int) = (xx1.snd.getD (16383 : Nat) (0 : Int))))) 23 (by kernel_rfl) rfl (by kernel_rfl) (by kernel_rfl) (by kernel_rfl) (by kernel_rfl) rfl (fun _ => by kernel_rfl) ?_
      refine Xg.any_flag (j := 154) (c := (decide (xx1.snd.getD (16383 : Nat) (0 : Int) = xx1.snd.getD (16383 : Nat) (0 : Int)))) (by kernel_rfl) (fun _ => ?_) (fun xh3 => absurd (of_decide_eq_false xh3) (by omega))
      refine Xg.any_pure ((Value.bool true)) 24 (by kernel_rfl) rfl (by kernel_rfl) (by kernel_rfl) (by kernel_rfl) (by kernel_rfl) rfl (fun _ => by kernel_rfl) ?_
      refine Xg.any_pure ((Value.bool true)) 25 (by kernel_rfl) rfl (by kernel_rfl) (by kernel_rfl) (by kernel_rfl) (by kernel_rfl) rfl (fun _ => by kernel_rfl) ?_
      refine Xg.any_pure ((pv xx2.fst 0)) 26 (by kernel_rfl) rfl (by kernel_rfl) (by kernel_rfl) (by kernel_rfl) (by kernel_rfl) rfl (fun _ => by kernel_rfl) ?_
      refine Xg.any_pure ((Value.slice xx1.fst n n)) 28 (by kernel_rfl) rfl (by kernel_rfl) (by kernel_rfl) (by kernel_rfl) (by kernel_rfl) rfl (fun _ => by kernel_rfl) ?_
      refine Xg.any_pure ((iv (↑kn : Int))) 29 (by kernel_rfl) rfl (by kernel_rfl) (by kernel_rfl) (by kernel_rfl) (by kernel_rfl) rfl (fun _ => by kernel_rfl) ?_
      refine Xg.any_int .i64 (IntKind.wrap .i64 (((16384 : Int) * (↑kn : Int)))) 30 (by kernel_rfl) rfl (by kernel_rfl) (by kernel_rfl) (by kernel_rfl) (by kernel_rfl) rfl (fun _ => by kernel_rfl) (Xg.wrap_i64_in (by omega)) ?_
      refine Xg.any_int .i64 (IntKind.wrap .i64 (((16384 : Int) * (↑kn : Int) + (16383 : Int)))) 31 (by kernel_rfl) rfl (by kernel_rfl) (by kernel_rfl) (by kernel_rfl) (by kernel_rfl) rfl (fun _ => by kernel_rfl) (Xg.wrap_i64_in (by omega)) ?_
      refine Xg.any_reads (.pointer (some (Addr.mk (Xg.blk xx1.fst) (offA xx1.fst + ((16384 : Int) * (↑kn : Int) + (16383 : Int)).toNat) none))) 32 6 (by kernel_rfl) rfl (by kernel_rfl) (by kernel_rfl) (by kernel_rfl) (by kernel_rfl) rfl rfl (by kernel_rfl) (Xg.rd_now 4 (Xg.reads_own (E := ((5 : TypeId))) (sz := ((1 : Nat))) (n := n) (c := n) (a := xx1.fst) (vs := (List.map (Value.int IntKind.u8) xx1.snd))) (by kernel_rfl)) (Xg.run_ix_rd (elem := 5) (kd := .i64) (e := ((16384 : Int) * (↑kn : Int) + (16383 : Int))) 1 (((16384 : Int) * (↑kn : Int) + (16383 : Int)).toNat) (offA xx1.fst + ((16384 : Int) * (↑kn : Int) + (16383 : Int)).toNat) (by kernel_rfl) (by kernel_rfl) (by kernel_rfl) (by kernel_rfl) (by omega) (by omega) (by simp only [List.length_map]; omega) (by omega)) ?_
      refine Xg.any_reads (uv (xx1.snd.getD ((16384 : Int) * (↑kn : Int) + (16383 : Int)).toNat (0 : Int))) 33 7 (by kernel_rfl) rfl (by kernel_rfl) (by kernel_rfl) (by kernel_rfl) (by kernel_rfl) rfl rfl (by kernel_rfl) (Xg.rd_now 4 (Xg.reads_own (E := ((5 : TypeId))) (sz := ((1 : Nat))) (n := n) (c := n) (a := xx1.fst) (vs := (List.map (Value.int IntKind.u8) xx1.snd))) (by kernel_rfl)) (Xg.run_load_rd (off0 := (offA xx1.fst + ((16384 : Int) * (↑kn : Int) + (16383 : Int)).toNat)) (((16384 : Int) * (↑kn : Int) + (16383 : Int)).toNat) (by kernel_rfl) (by omega) (Xg.get_ints (by omega)) (by kernel_rfl)) ?_
      refine Xg.any_each [27] (by kernel_rfl) rfl ⟨?_, trivial⟩
      refine Xg.comes_act rfl (by kernel_rfl) (by kernel_rfl) (Xg.opx_call1' [0, 1, 2, 3] [CR xx2.fst h xx2.snd.snd.fst n xx2.snd.snd.snd.fst xx2.snd.snd.snd.snd (512 : Nat) (512 : Nat) (V2 xx2.snd.fst), bts xx2.snd.snd.fst n xx2.snd.snd.snd.fst xx1.snd, bts xx2.snd.snd.snd.snd (512 : Nat) (512 : Nat) (List.replicate (512 : Nat) (0 : Int)), MR2 xx2.snd.fst (regW2 (Rg.mk (0 : Int) (1 : Int) (0 : Int) (0 : Int) (0 : Int)) ((8448 : Int) + pickI at0 (256 : Int)) (↑kn : Int)), bts xx1.fst n n xx1.snd, A, row xb1 (26 : Nat) [iv 5, iv (pickI cd (4 : Int)), iv 0, iv sd, iv 0, Value.slice none (0 : Nat) (0 : Nat), Value.slice none (0 : Nat) (0 : Nat), Value.bool false], TyP te ta tc] (fun _ => by kernel_rfl) (@hz4 ) (by kernel_rfl) (by kernel_rfl) (by kernel_rfl) ?_)
      refine Xg.acts (Xg.owes_skip (by kernel_rfl) (Xg.owes_skip (by kernel_rfl) (Xg.owes_skip (by kernel_rfl) (Xg.owes_skip (by kernel_rfl) (Xg.owes_skip (by kernel_rfl) (Xg.owes_skip (by kernel_rfl) (Xg.owes_rd 4 (Xg.reads_own (E := ((5 : TypeId))) (sz := ((1 : Nat))) (n := n) (c := n) (a := xx1.fst) (vs := (List.map (Value.int IntKind.u8) xx1.snd))) (by kernel_rfl) (Xg.owes_rd 4 (Xg.reads_own (E := ((5 : TypeId))) (sz := ((1 : Nat))) (n := n) (c := n) (a := xx1.fst) (vs := (List.map (Value.int IntKind.u8) xx1.snd))) (by kernel_rfl) Xg.owes_nil)))))))) ?_
      refine Xg.any_pure (.bool (decide (((xx1.snd.getD ((16384 : Int) * (↑kn : Int) + (16383 : Int)).toNat (0 : Int)) : Int) = (xx1.snd.getD ((16384 : Int) * (↑kn : Int) + (16383 : Int)).toNat (0 : Int))))) 34 (by kernel_rfl) rfl (by kernel_rfl) (by kernel_rfl) (by kernel_rfl) (by kernel_rfl) rfl (fun _ => by kernel_rfl) ?_
      refine Xg.any_flag (j := 165) (c := (decide (xx1.snd.getD ((16384 : Int) * (↑kn : Int) + (16383 : Int)).toNat (0 : Int) = xx1.snd.getD ((16384 : Int) * (↑kn : Int) + (16383 : Int)).toNat (0 : Int)))) (by kernel_rfl) (fun _ => ?_) (fun xh3 => absurd (of_decide_eq_false xh3) (by omega))
      refine Xg.any_pure ((Value.bool true)) 35 (by kernel_rfl) rfl (by kernel_rfl) (by kernel_rfl) (by kernel_rfl) (by kernel_rfl) rfl (fun _ => by kernel_rfl) ?_
      refine Xg.any_pure ((Value.bool true)) 36 (by kernel_rfl) rfl (by kernel_rfl) (by kernel_rfl) (by kernel_rfl) (by kernel_rfl) rfl (fun _ => by kernel_rfl) ?_
      refine Xg.any_nil (by kernel_rfl) ?_
      refine Xg.at_ret_ps (v := (Value.bool true)) [5, 7] [A, TyP te ta tc] Go.Proofs.Tryd.func4 (fun _ => by kernel_rfl) (by kernel_rfl) (by kernel_rfl) ?_
      exact ⟨by kernel_rfl, by kernel_rfl⟩)
end Go.Proofs.YthjhkondmobaeaaDoor
