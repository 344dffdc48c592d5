import Derived.Test.YthjhkondmobaeaaDoorMRam17
/- cart: Read and Write. -/
namespace Go.Proofs.YthjhkondmobaeaaDoor
open Go.Sl Go.Xg
set_option linter.unusedVariables false
set_option linter.unusedSimpArgs false
set_option maxHeartbeats 4000000
set_option maxRecDepth 100000

theorem cell_lt (κ : Nat) (r : Rg) (mn : Nat) (a : Int) (hr : r.Ok) (hmo : ramOk κ mn) (h : ¬ cellI κ r mn a < 0) : cellI κ r mn a < mn ∧ 0 < mn := by
  obtain ⟨g1, g2, g3, g4, g5⟩ := hr
  unfold cellI at h ⊢
  split
  · rename_i h1
    rw [if_pos h1] at h
    exact absurd (show (-1 : Int) < 0 by decide) h
  · rename_i h1
    rw [if_neg h1] at h
    have hmn : mn ≠ 0 := fun e => h1 (Or.inr (Or.inr (Or.inr e)))
    unfold ramOk at hmo
    split
    · rename_i h2
      subst h2
      omega
    · rename_i h2
      have hq2 := Int.emod_lt_of_pos (ramB κ r) (show 0 < (mn : Int) / 8192 by omega)
      have h3 : ¬ a < 40960 ∧ ¬ 49151 < a := ⟨fun e => h1 (Or.inl e), fun e => h1 (Or.inr (Or.inl e))⟩
      omega
theorem bank_ok (κ : Nat) (r : Rg) (hr : r.Ok) : 0 ≤ lowB κ r ∧ lowB κ r ≤ 100000 ∧ 0 ≤ highB κ r ∧ highB κ r ≤ 100000 := by
  obtain ⟨g1, g2, g3, g4, g5⟩ := hr
  unfold lowB highB
  split <;> split <;> omega
theorem read0_d (p mb : Nat) (h : Hd) (r : Rg) (ra : Option Addr) (rn rc : Nat) (ma : Option Addr) (mn mc : Nat) (R M : List Int) (a : Int) (ha : iok a) (hr : r.Ok) (hbk : 2 ≤ h.bk ∧ h.bk ≤ 128) (hR : R.length = rn) (hrn : (rn : Int) = 16384 * h.bk) (hrc : rn ≤ rc) (hM : M.length = mn) (hmc : mn ≤ mc) (hB : isB M) (hmp : h.mp = 0) (hmo : ramOk 0 mn) : Does Tryd.prog 12 [.pointer (some ⟨p, 0, none⟩), .int .i64 a] [CR p h ra rn rc ma mn mc (V0 mb), bts ra rn rc R, bts ma mn mc M] (Ret (.int .u8 (readI 0 r h.bk R M a)) [CR p h ra rn rc ma mn mc (V0 mb), bts ra rn rc R, bts ma mn mc M]) := by
  have hlo := flow_d
  have hhi := fhigh_d
  have hce := cell0_d p mb h r ra rn rc ma mn mc R M a ha hr hbk hR hrn hrc hM hmc hB hmp hmo
  obtain ⟨hb1, hb2, hb3, hb4⟩ := bank_ok 0 r hr
  have hlt := cell_lt 0 r mn a hr hmo
  unfold readI
  rw [hM]
  by_cases h1 : 0 ≤ a ∧ a < 16384
  · have hat := at_d p h ra rn rc ma mn mc (V0 mb) R (lowB 0 r) a ⟨hb1, hb2⟩ ⟨by omega, by omega⟩ ⟨by omega, by omega⟩ hR hrn hrc
    rw [if_pos h1]
    (focus
      refine Xg.spec_of Go.Proofs.Tryd.func12 rfl Go.Proofs.Tryd.ntmps12 fun g F => ?_)
    (focus
      refine Xg.at_seq ?_
      refine Xg.at_region ?_
      refine Xg.ops_op (by kernel_rfl) (Xg.opx_pure ((uv 0)) rfl (fun _ => by kernel_rfl) ?_)
      refine Xg.ops_nil ?_
      refine Xg.at_seq ?_
      refine Xg.at_block ?_
      refine Xg.at_seq ?_
      refine Xg.at_region ?_
      refine Xg.ops_op (by kernel_rfl) (Xg.opx_pure ((iv a)) rfl (fun _ => by kernel_rfl) ?_)
      refine Xg.ops_op (by kernel_rfl) (Xg.opx_pure (.bool (decide ((a : Int) ≥ ((0 : Int))))) rfl (fun _ => by kernel_rfl) ?_)
      refine Xg.ops_op (by kernel_rfl) (Xg.opx_pure ((Value.bool (decide (a ≥ (0 : Int))))) rfl (fun _ => by kernel_rfl) ?_)
      refine Xg.ops_flag (j := 9) (c := (decide (a ≥ (0 : Int)))) (by kernel_rfl) (fun _ => ?_) (fun xh1 => absurd (of_decide_eq_false xh1) (by omega))
      refine Xg.ops_op (by kernel_rfl) (Xg.opx_pure ((iv a)) rfl (fun _ => by kernel_rfl) ?_)
      refine Xg.ops_op (by kernel_rfl) (Xg.opx_pure (.bool (decide ((a : Int) < ((16384 : Int))))) rfl (fun _ => by kernel_rfl) ?_)
      refine Xg.ops_flag (j := 11) (c := (decide (a < (16384 : Int)))) (by kernel_rfl) (fun _ => ?_) (fun xh1 => absurd (of_decide_eq_false xh1) (by omega))
      refine Xg.ops_op (by kernel_rfl) (Xg.opx_pure ((Value.bool true)) rfl (fun _ => by kernel_rfl) ?_)
      refine Xg.ops_op (by kernel_rfl) (Xg.opx_pure ((Value.bool true)) rfl (fun _ => by kernel_rfl) ?_)
      refine Xg.ops_nil ?_
      refine Xg.at_true (t := true) (by kernel_rfl) rfl ?_
      refine Xg.at_seq ?_
      refine Xg.at_region ?_
      refine Xg.ops_op (by kernel_rfl) (Xg.opx_pure ((pv p 0)) rfl (fun _ => by kernel_rfl) ?_)
      refine Xg.ops_op (by kernel_rfl) (Xg.opx_pure ((pv p 0)) rfl (fun _ => by kernel_rfl) ?_)
      refine Xg.ops_op (by kernel_rfl) (Xg.opx_pure ((pv p 0)) rfl (fun _ => by kernel_rfl) ?_)
      refine Xg.ops_op (by kernel_rfl) (Xg.opx_pure ((pv p 8)) rfl (fun _ => by kernel_rfl) ?_)
      refine Xg.ops_op (by kernel_rfl) (Xg.opx_load (b := p) (off := ((8 : Nat))) 0 (Value.iface (84 : Nat) (Value.agg #[])) rfl (by kernel_rfl) (by kernel_rfl) (by kernel_rfl) ?_)
      refine Xg.ops_op (by kernel_rfl) (Xg.opx_call1' [] [CR p h ra rn rc ma mn mc (V0 mb), bts ra rn rc R, bts ma mn mc M] (fun _ => by kernel_rfl) (@hlo ) (by kernel_rfl) (by kernel_rfl) (by kernel_rfl) ?_)
      refine Xg.ops_op (by kernel_rfl) (Xg.opx_pure ((iv a)) rfl (fun _ => by kernel_rfl) ?_)
      refine Xg.ops_op (by kernel_rfl) (Xg.opx_call1' [0, 1] [CR p h ra rn rc ma mn mc (V0 mb), bts ra rn rc R, bts ma mn mc M] (fun _ => by kernel_rfl) (@hat ) (by kernel_rfl) (by kernel_rfl) (by kernel_rfl) ?_)
      refine Xg.ops_op (by kernel_rfl) (Xg.opx_pure ((uv (R.getD (lowB (0 : Nat) r % h.bk * (16384 : Int) + a % (16384 : Int)).toNat (0 : Int)))) rfl (fun _ => by kernel_rfl) ?_)
      refine Xg.ops_nil ?_
      refine Xg.at_ret_ps (v := (uv (R.getD (lowB (0 : Nat) r % h.bk * (16384 : Int) + a % (16384 : Int)).toNat (0 : Int)))) [0, 1, 2] [CR p h ra rn rc ma mn mc (V0 mb), bts ra rn rc R, bts ma mn mc M] Go.Proofs.Tryd.func12 (fun _ => by kernel_rfl) (by kernel_rfl) (by kernel_rfl) ?_
      exact ⟨by kernel_rfl, by kernel_rfl⟩)
  rw [if_neg h1]
  by_cases h2 : 16384 ≤ a ∧ a < 32768
  · have hat := at_d p h ra rn rc ma mn mc (V0 mb) R (highB 0 r) a ⟨hb3, hb4⟩ ⟨by omega, by omega⟩ ⟨by omega, by omega⟩ hR hrn hrc
    rw [if_pos h2]
    (focus
      refine Xg.spec_of Go.Proofs.Tryd.func12 rfl Go.Proofs.Tryd.ntmps12 fun g F => ?_)
    (focus
      refine Xg.at_seq ?_
      refine Xg.at_region ?_
      refine Xg.ops_op (by kernel_rfl) (Xg.opx_pure ((uv 0)) rfl (fun _ => by kernel_rfl) ?_)
      refine Xg.ops_nil ?_
      refine Xg.at_seq ?_
      refine Xg.at_block ?_
      refine Xg.at_seq ?_
      refine Xg.at_region ?_
      refine Xg.ops_op (by kernel_rfl) (Xg.opx_pure ((iv a)) rfl (fun _ => by kernel_rfl) ?_)
      refine Xg.ops_op (by kernel_rfl) (Xg.opx_pure (.bool (decide ((a : Int) ≥ ((0 : Int))))) rfl (fun _ => by kernel_rfl) ?_)
      refine Xg.ops_op (by kernel_rfl) (Xg.opx_pure ((Value.bool (decide (a ≥ (0 : Int))))) rfl (fun _ => by kernel_rfl) ?_)
      refine Xg.ops_flag (j := 9) (c := (decide (a ≥ (0 : Int)))) (by kernel_rfl) (fun _ => ?_) (fun xh1 => absurd (of_decide_eq_false xh1) (by omega))
      refine Xg.ops_op (by kernel_rfl) (Xg.opx_pure ((iv a)) rfl (fun _ => by kernel_rfl) ?_)
      refine Xg.ops_op (by kernel_rfl) (Xg.opx_pure (.bool (decide ((a : Int) < ((16384 : Int))))) rfl (fun _ => by kernel_rfl) ?_)
      refine Xg.ops_flag (j := 11) (c := (decide (a < (16384 : Int)))) (by kernel_rfl) (fun xh1 => absurd (of_decide_eq_true xh1) (by omega)) (fun _ => ?_)
      refine Xg.ops_op (by kernel_rfl) (Xg.opx_pure ((Value.bool false)) rfl (fun _ => by kernel_rfl) ?_)
      refine Xg.ops_op (by kernel_rfl) (Xg.opx_pure ((Value.bool false)) rfl (fun _ => by kernel_rfl) ?_)
      refine Xg.ops_nil ?_
      refine Xg.at_false (t := false) (by kernel_rfl) rfl ?_
      refine Xg.at_seq ?_
      refine Xg.at_region ?_
      refine Xg.ops_op (by kernel_rfl) (Xg.opx_pure ((iv a)) rfl (fun _ => by kernel_rfl) ?_)
      refine Xg.ops_op (by kernel_rfl) (Xg.opx_pure (.bool (decide ((a : Int) ≥ ((16384 : Int))))) rfl (fun _ => by kernel_rfl) ?_)
      refine Xg.ops_op (by kernel_rfl) (Xg.opx_pure ((Value.bool (decide (a ≥ (16384 : Int))))) rfl (fun _ => by kernel_rfl) ?_)
      refine Xg.ops_flag (j := 24) (c := (decide (a ≥ (16384 : Int)))) (by kernel_rfl) (fun _ => ?_) (fun xh1 => absurd (of_decide_eq_false xh1) (by omega))
      refine Xg.ops_op (by kernel_rfl) (Xg.opx_pure ((iv a)) rfl (fun _ => by kernel_rfl) ?_)
      refine Xg.ops_op (by kernel_rfl) (Xg.opx_pure (.bool (decide ((a : Int) < ((32768 : Int))))) rfl (fun _ => by kernel_rfl) ?_)
      refine Xg.ops_flag (j := 26) (c := (decide (a < (32768 : Int)))) (by kernel_rfl) (fun _ => ?_) (fun xh1 => absurd (of_decide_eq_false xh1) (by omega))
      refine Xg.ops_op (by kernel_rfl) (Xg.opx_pure ((Value.bool true)) rfl (fun _ => by kernel_rfl) ?_)
      refine Xg.ops_op (by kernel_rfl) (Xg.opx_pure ((Value.bool true)) rfl (fun _ => by kernel_rfl) ?_)
      refine Xg.ops_nil ?_
      refine Xg.at_true (t := true) (by kernel_rfl) rfl ?_
      refine Xg.at_seq ?_
      refine Xg.at_region ?_
      refine Xg.ops_op (by kernel_rfl) (Xg.opx_pure ((pv p 0)) rfl (fun _ => by kernel_rfl) ?_)
      refine Xg.ops_op (by kernel_rfl) (Xg.opx_pure ((pv p 0)) rfl (fun _ => by kernel_rfl) ?_)
      refine Xg.ops_op (by kernel_rfl) (Xg.opx_pure ((pv p 0)) rfl (fun _ => by kernel_rfl) ?_)
      refine Xg.ops_op (by kernel_rfl) (Xg.opx_pure ((pv p 8)) rfl (fun _ => by kernel_rfl) ?_)
      refine Xg.ops_op (by kernel_rfl) (Xg.opx_load (b := p) (off := ((8 : Nat))) 0 (Value.iface (84 : Nat) (Value.agg #[])) rfl (by kernel_rfl) (by kernel_rfl) (by kernel_rfl) ?_)
      refine Xg.ops_op (by kernel_rfl) (Xg.opx_call1' [] [CR p h ra rn rc ma mn mc (V0 mb), bts ra rn rc R, bts ma mn mc M] (fun _ => by kernel_rfl) (@hhi ) (by kernel_rfl) (by kernel_rfl) (by kernel_rfl) ?_)
      refine Xg.ops_op (by kernel_rfl) (Xg.opx_pure ((iv a)) rfl (fun _ => by kernel_rfl) ?_)
      refine Xg.ops_op (by kernel_rfl) (Xg.opx_call1' [0, 1] [CR p h ra rn rc ma mn mc (V0 mb), bts ra rn rc R, bts ma mn mc M] (fun _ => by kernel_rfl) (@hat ) (by kernel_rfl) (by kernel_rfl) (by kernel_rfl) ?_)
      refine Xg.ops_op (by kernel_rfl) (Xg.opx_pure ((uv (R.getD (highB (0 : Nat) r % h.bk * (16384 : Int) + a % (16384 : Int)).toNat (0 : Int)))) rfl (fun _ => by kernel_rfl) ?_)
      refine Xg.ops_nil ?_
      refine Xg.at_ret_ps (v := (uv (R.getD (highB (0 : Nat) r % h.bk * (16384 : Int) + a % (16384 : Int)).toNat (0 : Int)))) [0, 1, 2] [CR p h ra rn rc ma mn mc (V0 mb), bts ra rn rc R, bts ma mn mc M] Go.Proofs.Tryd.func12 (fun _ => by kernel_rfl) (by kernel_rfl) (by kernel_rfl) ?_
      exact ⟨by kernel_rfl, by kernel_rfl⟩)
  rw [if_neg h2]
  have h12 : a < 0 ∨ 32767 < a := by omega
  obtain ⟨ci, hci⟩ : ∃ ci, cellI 0 r mn a = ci := ⟨_, rfl⟩
  rw [hci] at hce hlt ⊢
  by_cases h3 : ci < 0
  · rw [if_pos h3]
    by_cases h4 : a < 0
    · (focus
        refine Xg.spec_of Go.Proofs.Tryd.func12 rfl Go.Proofs.Tryd.ntmps12 fun g F => ?_)
      (focus
        refine Xg.at_seq ?_
        refine Xg.at_region ?_
        refine Xg.ops_op (by kernel_rfl) (Xg.opx_pure ((uv 0)) rfl (fun _ => by kernel_rfl) ?_)
        refine Xg.ops_nil ?_
        refine Xg.at_seq ?_
        refine Xg.at_block ?_
        refine Xg.at_seq ?_
        refine Xg.at_region ?_
        refine Xg.ops_op (by kernel_rfl) (Xg.opx_pure ((iv a)) rfl (fun _ => by kernel_rfl) ?_)
        refine Xg.ops_op (by kernel_rfl) (Xg.opx_pure (.bool (decide ((a : Int) ≥ ((0 : Int))))) rfl (fun _ => by kernel_rfl) ?_)
        refine Xg.ops_op (by kernel_rfl) (Xg.opx_pure ((Value.bool (decide (a ≥ (0 : Int))))) rfl (fun _ => by kernel_rfl) ?_)
        refine Xg.ops_flag (j := 9) (c := (decide (a ≥ (0 : Int)))) (by kernel_rfl) (fun xh1 => absurd (of_decide_eq_true xh1) (by omega)) (fun _ => ?_)
        refine Xg.ops_skip (by kernel_rfl) ?_
        refine Xg.ops_skip (by kernel_rfl) ?_
        refine Xg.ops_op (by kernel_rfl) (Xg.opx_pure ((Value.bool false)) rfl (fun _ => by kernel_rfl) ?_)
        refine Xg.ops_op (by kernel_rfl) (Xg.opx_pure ((Value.bool false)) rfl (fun _ => by kernel_rfl) ?_)
        refine Xg.ops_nil ?_
        refine Xg.at_false (t := false) (by kernel_rfl) rfl ?_
        refine Xg.at_seq ?_
        refine Xg.at_region ?_
        refine Xg.ops_op (by kernel_rfl) (Xg.opx_pure ((iv a)) rfl (fun _ => by kernel_rfl) ?_)
        refine Xg.ops_op (by kernel_rfl) (Xg.opx_pure (.bool (decide ((a : Int) ≥ ((16384 : Int))))) rfl (fun _ => by kernel_rfl) ?_)
        refine Xg.ops_op (by kernel_rfl) (Xg.opx_pure ((Value.bool (decide (a ≥ (16384 : Int))))) rfl (fun _ => by kernel_rfl) ?_)
        refine Xg.ops_flag (j := 24) (c := (decide (a ≥ (16384 : Int)))) (by kernel_rfl) (fun xh1 => absurd (of_decide_eq_true xh1) (by omega)) (fun _ => ?_)
        refine Xg.ops_skip (by kernel_rfl) ?_
        refine Xg.ops_skip (by kernel_rfl) ?_
        refine Xg.ops_op (by kernel_rfl) (Xg.opx_pure ((Value.bool false)) rfl (fun _ => by kernel_rfl) ?_)
        refine Xg.ops_op (by kernel_rfl) (Xg.opx_pure ((Value.bool false)) rfl (fun _ => by kernel_rfl) ?_)
        refine Xg.ops_nil ?_
        refine Xg.at_false (t := false) (by kernel_rfl) rfl ?_
        refine Xg.at_skip ?_
        refine Xg.at_inBlock ?_
        refine Xg.at_seq ?_
        refine Xg.at_region ?_
        refine Xg.ops_op (by kernel_rfl) (Xg.opx_pure ((pv p 0)) rfl (fun _ => by kernel_rfl) ?_)
        refine Xg.ops_op (by kernel_rfl) (Xg.opx_pure ((iv a)) rfl (fun _ => by kernel_rfl) ?_)
        refine Xg.ops_op (by kernel_rfl) (Xg.opx_call1' [0, 1, 2] [CR p h ra rn rc ma mn mc (V0 mb), bts ra rn rc R, bts ma mn mc M] (fun _ => by kernel_rfl) (@hce ) (by kernel_rfl) (by kernel_rfl) (by kernel_rfl) ?_)
        refine Xg.ops_op (by kernel_rfl) (Xg.opx_pure ((iv ci)) rfl (fun _ => by kernel_rfl) ?_)
        refine Xg.ops_nil ?_
        refine Xg.at_seq ?_
        refine Xg.at_block ?_
        refine Xg.at_seq ?_
        refine Xg.at_region ?_
        refine Xg.ops_op (by kernel_rfl) (Xg.opx_pure ((iv ci)) rfl (fun _ => by kernel_rfl) ?_)
        refine Xg.ops_op (by kernel_rfl) (Xg.opx_pure (.bool (decide ((ci : Int) < ((0 : Int))))) rfl (fun _ => by kernel_rfl) ?_)
        refine Xg.ops_op (by kernel_rfl) (Xg.opx_pure ((Value.bool (decide (ci < (0 : Int))))) rfl (fun _ => by kernel_rfl) ?_)
        refine Xg.ops_nil ?_
        refine Xg.at_true (t := decide ((ci < (0 : Int)))) (by kernel_rfl) (decide_eq_true (by omega)) ?_
        refine Xg.at_seq ?_
        refine Xg.at_region ?_
        refine Xg.ops_op (by kernel_rfl) (Xg.opx_pure ((uv 255)) rfl (fun _ => by kernel_rfl) ?_)
        refine Xg.ops_nil ?_
        refine Xg.at_ret_ps (v := (uv 255)) [0, 1, 2] [CR p h ra rn rc ma mn mc (V0 mb), bts ra rn rc R, bts ma mn mc M] Go.Proofs.Tryd.func12 (fun _ => by kernel_rfl) (by kernel_rfl) (by kernel_rfl) ?_
        exact ⟨by kernel_rfl, by kernel_rfl⟩)
    · (focus
        refine Xg.spec_of Go.Proofs.Tryd.func12 rfl Go.Proofs.Tryd.ntmps12 fun g F => ?_)
      (focus
        refine Xg.at_seq ?_
        refine Xg.at_region ?_
        refine Xg.ops_op (by kernel_rfl) (Xg.opx_pure ((uv 0)) rfl (fun _ => by kernel_rfl) ?_)
        refine Xg.ops_nil ?_
        refine Xg.at_seq ?_
        refine Xg.at_block ?_
        refine Xg.at_seq ?_
        refine Xg.at_region ?_
        refine Xg.ops_op (by kernel_rfl) (Xg.opx_pure ((iv a)) rfl (fun _ => by kernel_rfl) ?_)
        refine Xg.ops_op (by kernel_rfl) (Xg.opx_pure (.bool (decide ((a : Int) ≥ ((0 : Int))))) rfl (fun _ => by kernel_rfl) ?_)
        refine Xg.ops_op (by kernel_rfl) (Xg.opx_pure ((Value.bool (decide (a ≥ (0 : Int))))) rfl (fun _ => by kernel_rfl) ?_)
        refine Xg.ops_flag (j := 9) (c := (decide (a ≥ (0 : Int)))) (by kernel_rfl) (fun _ => ?_) (fun xh1 => absurd (of_decide_eq_false xh1) (by omega))
        refine Xg.ops_op (by kernel_rfl) (Xg.opx_pure ((iv a)) rfl (fun _ => by kernel_rfl) ?_)
        refine Xg.ops_op (by kernel_rfl) (Xg.opx_pure (.bool (decide ((a : Int) < ((16384 : Int))))) rfl (fun _ => by kernel_rfl) ?_)
        refine Xg.ops_flag (j := 11) (c := (decide (a < (16384 : Int)))) (by kernel_rfl) (fun xh1 => absurd (of_decide_eq_true xh1) (by omega)) (fun _ => ?_)
        refine Xg.ops_op (by kernel_rfl) (Xg.opx_pure ((Value.bool false)) rfl (fun _ => by kernel_rfl) ?_)
        refine Xg.ops_op (by kernel_rfl) (Xg.opx_pure ((Value.bool false)) rfl (fun _ => by kernel_rfl) ?_)
        refine Xg.ops_nil ?_
        refine Xg.at_false (t := false) (by kernel_rfl) rfl ?_
        refine Xg.at_seq ?_
        refine Xg.at_region ?_
        refine Xg.ops_op (by kernel_rfl) (Xg.opx_pure ((iv a)) rfl (fun _ => by kernel_rfl) ?_)
        refine Xg.ops_op (by kernel_rfl) (Xg.opx_pure (.bool (decide ((a : Int) ≥ ((16384 : Int))))) rfl (fun _ => by kernel_rfl) ?_)
        refine Xg.ops_op (by kernel_rfl) (Xg.opx_pure ((Value.bool (decide (a ≥ (16384 : Int))))) rfl (fun _ => by kernel_rfl) ?_)
        refine Xg.ops_flag (j := 24) (c := (decide (a ≥ (16384 : Int)))) (by kernel_rfl) (fun _ => ?_) (fun xh1 => absurd (of_decide_eq_false xh1) (by omega))
        refine Xg.ops_op (by kernel_rfl) (Xg.opx_pure ((iv a)) rfl (fun _ => by kernel_rfl) ?_)
        refine Xg.ops_op (by kernel_rfl) (Xg.opx_pure (.bool (decide ((a : Int) < ((32768 : Int))))) rfl (fun _ => by kernel_rfl) ?_)
        refine Xg.ops_flag (j := 26) (c := (decide (a < (32768 : Int)))) (by kernel_rfl) (fun xh1 => absurd (of_decide_eq_true xh1) (by omega)) (fun _ => ?_)
        refine Xg.ops_op (by kernel_rfl) (Xg.opx_pure ((Value.bool false)) rfl (fun _ => by kernel_rfl) ?_)
        refine Xg.ops_op (by kernel_rfl) (Xg.opx_pure ((Value.bool false)) rfl (fun _ => by kernel_rfl) ?_)
        refine Xg.ops_nil ?_
        refine Xg.at_false (t := false) (by kernel_rfl) rfl ?_
        refine Xg.at_skip ?_
        refine Xg.at_inBlock ?_
        refine Xg.at_seq ?_
        refine Xg.at_region ?_
        refine Xg.ops_op (by kernel_rfl) (Xg.opx_pure ((pv p 0)) rfl (fun _ => by kernel_rfl) ?_)
        refine Xg.ops_op (by kernel_rfl) (Xg.opx_pure ((iv a)) rfl (fun _ => by kernel_rfl) ?_)
        refine Xg.ops_op (by kernel_rfl) (Xg.opx_call1' [0, 1, 2] [CR p h ra rn rc ma mn mc (V0 mb), bts ra rn rc R, bts ma mn mc M] (fun _ => by kernel_rfl) (@hce ) (by kernel_rfl) (by kernel_rfl) (by kernel_rfl) ?_)
        refine Xg.ops_op (by kernel_rfl) (Xg.opx_pure ((iv ci)) rfl (fun _ => by kernel_rfl) ?_)
        refine Xg.ops_nil ?_
        refine Xg.at_seq ?_
        refine Xg.at_block ?_
        refine Xg.at_seq ?_
        refine Xg.at_region ?_
        refine Xg.ops_op (by kernel_rfl) (Xg.opx_pure ((iv ci)) rfl (fun _ => by kernel_rfl) ?_)
        refine Xg.ops_op (by kernel_rfl) (Xg.opx_pure (.bool (decide ((ci : Int) < ((0 : Int))))) rfl (fun _ => by kernel_rfl) ?_)
        refine Xg.ops_op (by kernel_rfl) (Xg.opx_pure ((Value.bool (decide (ci < (0 : Int))))) rfl (fun _ => by kernel_rfl) ?_)
        refine Xg.ops_nil ?_
        refine Xg.at_true (t := decide ((ci < (0 : Int)))) (by kernel_rfl) (decide_eq_true (by omega)) ?_
        refine Xg.at_seq ?_
        refine Xg.at_region ?_
        refine Xg.ops_op (by kernel_rfl) (Xg.opx_pure ((uv 255)) rfl (fun _ => by kernel_rfl) ?_)
        refine Xg.ops_nil ?_
        refine Xg.at_ret_ps (v := (uv 255)) [0, 1, 2] [CR p h ra rn rc ma mn mc (V0 mb), bts ra rn rc R, bts ma mn mc M] Go.Proofs.Tryd.func12 (fun _ => by kernel_rfl) (by kernel_rfl) (by kernel_rfl) ?_
        exact ⟨by kernel_rfl, by kernel_rfl⟩)
  obtain ⟨h5, h6⟩ := hlt h3
  rw [if_neg h3]
  obtain ⟨cn, rfl⟩ : ∃ cn : Nat, ci = (cn : Int) := ⟨ci.toNat, by omega⟩
  rw [if_neg (by decide)]
  rw [Int.toNat_natCast]
  have hbb := isB_get hB (i := cn) (by omega)
  by_cases h4 : a < 0
  · (focus
      refine Xg.spec_of Go.Proofs.Tryd.func12 rfl Go.Proofs.Tryd.ntmps12 fun g F => ?_)
    (focus
      refine Xg.at_seq ?_
      refine Xg.at_region ?_
      refine Xg.ops_op (by kernel_rfl) (Xg.opx_pure ((uv 0)) rfl (fun _ => by kernel_rfl) ?_)
      refine Xg.ops_nil ?_
      refine Xg.at_seq ?_
      refine Xg.at_block ?_
      refine Xg.at_seq ?_
      refine Xg.at_region ?_
      refine Xg.ops_op (by kernel_rfl) (Xg.opx_pure ((iv a)) rfl (fun _ => by kernel_rfl) ?_)
      refine Xg.ops_op (by kernel_rfl) (Xg.opx_pure (.bool (decide ((a : Int) ≥ ((0 : Int))))) rfl (fun _ => by kernel_rfl) ?_)
      refine Xg.ops_op (by kernel_rfl) (Xg.opx_pure ((Value.bool (decide (a ≥ (0 : Int))))) rfl (fun _ => by kernel_rfl) ?_)
      refine Xg.ops_flag (j := 9) (c := (decide (a ≥ (0 : Int)))) (by kernel_rfl) (fun xh1 => absurd (of_decide_eq_true xh1) (by omega)) (fun _ => ?_)
      refine Xg.ops_skip (by kernel_rfl) ?_
      refine Xg.ops_skip (by kernel_rfl) ?_
      refine Xg.ops_op (by kernel_rfl) (Xg.opx_pure ((Value.bool false)) rfl (fun _ => by kernel_rfl) ?_)
      refine Xg.ops_op (by kernel_rfl) (Xg.opx_pure ((Value.bool false)) rfl (fun _ => by kernel_rfl) ?_)
      refine Xg.ops_nil ?_
      refine Xg.at_false (t := false) (by kernel_rfl) rfl ?_
      refine Xg.at_seq ?_
      refine Xg.at_region ?_
      refine Xg.ops_op (by kernel_rfl) (Xg.opx_pure ((iv a)) rfl (fun _ => by kernel_rfl) ?_)
      refine Xg.ops_op (by kernel_rfl) (Xg.opx_pure (.bool (decide ((a : Int) ≥ ((16384 : Int))))) rfl (fun _ => by kernel_rfl) ?_)
      refine Xg.ops_op (by kernel_rfl) (Xg.opx_pure ((Value.bool (decide (a ≥ (16384 : Int))))) rfl (fun _ => by kernel_rfl) ?_)
      refine Xg.ops_flag (j := 24) (c := (decide (a ≥ (16384 : Int)))) (by kernel_rfl) (fun xh1 => absurd (of_decide_eq_true xh1) (by omega)) (fun _ => ?_)
      refine Xg.ops_skip (by kernel_rfl) ?_
      refine Xg.ops_skip (by kernel_rfl) ?_
      refine Xg.ops_op (by kernel_rfl) (Xg.opx_pure ((Value.bool false)) rfl (fun _ => by kernel_rfl) ?_)
      refine Xg.ops_op (by kernel_rfl) (Xg.opx_pure ((Value.bool false)) rfl (fun _ => by kernel_rfl) ?_)
      refine Xg.ops_nil ?_
      refine Xg.at_false (t := false) (by kernel_rfl) rfl ?_
      refine Xg.at_skip ?_
      refine Xg.at_inBlock ?_
      refine Xg.at_seq ?_
      refine Xg.at_region ?_
      refine Xg.ops_op (by kernel_rfl) (Xg.opx_pure ((pv p 0)) rfl (fun _ => by kernel_rfl) ?_)
      refine Xg.ops_op (by kernel_rfl) (Xg.opx_pure ((iv a)) rfl (fun _ => by kernel_rfl) ?_)
      refine Xg.ops_op (by kernel_rfl) (Xg.opx_call1' [0, 1, 2] [CR p h ra rn rc ma mn mc (V0 mb), bts ra rn rc R, bts ma mn mc M] (fun _ => by kernel_rfl) (@hce ) (by kernel_rfl) (by kernel_rfl) (by kernel_rfl) ?_)
      refine Xg.ops_op (by kernel_rfl) (Xg.opx_pure ((iv (↑cn : Int))) rfl (fun _ => by kernel_rfl) ?_)
      refine Xg.ops_nil ?_
      refine Xg.at_seq ?_
      refine Xg.at_block ?_
      refine Xg.at_seq ?_
      refine Xg.at_region ?_
      refine Xg.ops_op (by kernel_rfl) (Xg.opx_pure ((iv (↑cn : Int))) rfl (fun _ => by kernel_rfl) ?_)
      refine Xg.ops_op (by kernel_rfl) (Xg.opx_pure (.bool (decide ((((↑cn : Int)) : Int) < ((0 : Int))))) rfl (fun _ => by kernel_rfl) ?_)
      refine Xg.ops_op (by kernel_rfl) (Xg.opx_pure ((Value.bool (decide ((↑cn : Int) < (0 : Int))))) rfl (fun _ => by kernel_rfl) ?_)
      refine Xg.ops_nil ?_
      refine Xg.at_false (t := false) (by kernel_rfl) rfl ?_
      refine Xg.at_seq ?_
      refine Xg.at_region ?_
      refine Xg.ops_op (by kernel_rfl) (Xg.opx_pure ((pv p 0)) rfl (fun _ => by kernel_rfl) ?_)
      refine Xg.ops_op (by kernel_rfl) (Xg.opx_pure ((pv p 0)) rfl (fun _ => by kernel_rfl) ?_)
      refine Xg.ops_op (by kernel_rfl) (Xg.opx_pure ((pv p 0)) rfl (fun _ => by kernel_rfl) ?_)
      refine Xg.ops_op (by kernel_rfl) (Xg.opx_pure ((pv p 2)) rfl (fun _ => by kernel_rfl) ?_)
      refine Xg.ops_op (by kernel_rfl) (Xg.opx_load (b := p) (off := ((2 : Nat))) 0 (iv h.mp) rfl (by kernel_rfl) (by kernel_rfl) (by kernel_rfl) ?_)
      refine Xg.ops_op (by kernel_rfl) (Xg.opx_pure (.bool (decide ((h.mp : Int) = ((2 : Int))))) rfl (fun _ => by kernel_rfl) ?_)
      refine Xg.ops_op (by kernel_rfl) (Xg.opx_pure ((Value.bool (decide (h.mp = (2 : Int))))) rfl (fun _ => by kernel_rfl) ?_)
      refine Xg.ops_nil ?_
      refine Xg.at_false (t := decide ((h.mp = (2 : Int)))) (by kernel_rfl) (decide_eq_false (by omega)) ?_
      refine Xg.at_skip ?_
      refine Xg.at_inBlock ?_
      refine Xg.at_seq ?_
      refine Xg.at_region ?_
      refine Xg.ops_op (by kernel_rfl) (Xg.opx_pure ((pv p 0)) rfl (fun _ => by kernel_rfl) ?_)
      refine Xg.ops_op (by kernel_rfl) (Xg.opx_pure ((pv p 0)) rfl (fun _ => by kernel_rfl) ?_)
      refine Xg.ops_op (by kernel_rfl) (Xg.opx_pure ((pv p 7)) rfl (fun _ => by kernel_rfl) ?_)
      refine Xg.ops_op (by kernel_rfl) (Xg.opx_load (b := p) (off := ((7 : Nat))) 0 (Value.slice ma mn mc) rfl (by kernel_rfl) (by kernel_rfl) (by kernel_rfl) ?_)
      refine Xg.ops_op (by kernel_rfl) (Xg.opx_pure ((iv (↑cn : Int))) rfl (fun _ => by kernel_rfl) ?_)
      refine Xg.ops_op (by kernel_rfl) (Xg.opx_ix_own (elem := 5) (kd := .i64) (e := ((↑cn : Int))) 2 1 cn cn rfl (by kernel_rfl) (by kernel_rfl) (by kernel_rfl) (by kernel_rfl) rfl (by omega) (by omega) ?_)
      refine Xg.ops_op (by kernel_rfl) (Xg.opx_load_own (a := ma) (off := cn) 2 (uv (M.getD cn (0 : Int))) rfl (by kernel_rfl) (Xg.get_ints (by omega)) (by kernel_rfl) ?_)
      refine Xg.ops_op (by kernel_rfl) (Xg.opx_pure ((uv (M.getD cn (0 : Int)))) rfl (fun _ => by kernel_rfl) ?_)
      refine Xg.ops_nil ?_
      refine Xg.at_ret_ps (v := (uv (M.getD cn (0 : Int)))) [0, 1, 2] [CR p h ra rn rc ma mn mc (V0 mb), bts ra rn rc R, bts ma mn mc M] Go.Proofs.Tryd.func12 (fun _ => by kernel_rfl) (by kernel_rfl) (by kernel_rfl) ?_
      exact ⟨by kernel_rfl, by kernel_rfl⟩)
  · (focus
      refine Xg.spec_of Go.Proofs.Tryd.func12 rfl Go.Proofs.Tryd.ntmps12 fun g F => ?_)
    (focus
      refine Xg.at_seq ?_
      refine Xg.at_region ?_
      refine Xg.ops_op (by kernel_rfl) (Xg.opx_pure ((uv 0)) rfl (fun _ => by kernel_rfl) ?_)
      refine Xg.ops_nil ?_
      refine Xg.at_seq ?_
      refine Xg.at_block ?_
      refine Xg.at_seq ?_
      refine Xg.at_region ?_
      refine Xg.ops_op (by kernel_rfl) (Xg.opx_pure ((iv a)) rfl (fun _ => by kernel_rfl) ?_)
      refine Xg.ops_op (by kernel_rfl) (Xg.opx_pure (.bool (decide ((a : Int) ≥ ((0 : Int))))) rfl (fun _ => by kernel_rfl) ?_)
      refine Xg.ops_op (by kernel_rfl) (Xg.opx_pure ((Value.bool (decide (a ≥ (0 : Int))))) rfl (fun _ => by kernel_rfl) ?_)
      refine Xg.ops_flag (j := 9) (c := (decide (a ≥ (0 : Int)))) (by kernel_rfl) (fun _ => ?_) (fun xh1 => absurd (of_decide_eq_false xh1) (by omega))
      refine Xg.ops_op (by kernel_rfl) (Xg.opx_pure ((iv a)) rfl (fun _ => by kernel_rfl) ?_)
      refine Xg.ops_op (by kernel_rfl) (Xg.opx_pure (.bool (decide ((a : Int) < ((16384 : Int))))) rfl (fun _ => by kernel_rfl) ?_)
      refine Xg.ops_flag (j := 11) (c := (decide (a < (16384 : Int)))) (by kernel_rfl) (fun xh1 => absurd (of_decide_eq_true xh1) (by omega)) (fun _ => ?_)
      refine Xg.ops_op (by kernel_rfl) (Xg.opx_pure ((Value.bool false)) rfl (fun _ => by kernel_rfl) ?_)
      refine Xg.ops_op (by kernel_rfl) (Xg.opx_pure ((Value.bool false)) rfl (fun _ => by kernel_rfl) ?_)
      refine Xg.ops_nil ?_
      refine Xg.at_false (t := false) (by kernel_rfl) rfl ?_
      refine Xg.at_seq ?_
      refine Xg.at_region ?_
      refine Xg.ops_op (by kernel_rfl) (Xg.opx_pure ((iv a)) rfl (fun _ => by kernel_rfl) ?_)
      refine Xg.ops_op (by kernel_rfl) (Xg.opx_pure (.bool (decide ((a : Int) ≥ ((16384 : Int))))) rfl (fun _ => by kernel_rfl) ?_)
      refine Xg.ops_op (by kernel_rfl) (Xg.opx_pure ((Value.bool (decide (a ≥ (16384 : Int))))) rfl (fun _ => by kernel_rfl) ?_)
      refine Xg.ops_flag (j := 24) (c := (decide (a ≥ (16384 : Int)))) (by kernel_rfl) (fun _ => ?_) (fun xh1 => absurd (of_decide_eq_false xh1) (by omega))
      refine Xg.ops_op (by kernel_rfl) (Xg.opx_pure ((iv a)) rfl (fun _ => by kernel_rfl) ?_)
      refine Xg.ops_op (by kernel_rfl) (Xg.opx_pure (.bool (decide ((a : Int) < ((32768 : Int))))) rfl (fun _ => by kernel_rfl) ?_)
      refine Xg.ops_flag (j := 26) (c := (decide (a < (32768 : Int)))) (by kernel_rfl) (fun xh1 => absurd (of_decide_eq_true xh1) (by omega)) (fun _ => ?_)
      refine Xg.ops_op (by kernel_rfl) (Xg.opx_pure ((Value.bool false)) rfl (fun _ => by kernel_rfl) ?_)
      refine Xg.ops_op (by kernel_rfl) (Xg.opx_pure ((Value.bool false)) rfl (fun _ => by kernel_rfl) ?_)
      refine Xg.ops_nil ?_
      refine Xg.at_false (t := false) (by kernel_rfl) rfl ?_
      refine Xg.at_skip ?_
      refine Xg.at_inBlock ?_
      refine Xg.at_seq ?_
      refine Xg.at_region ?_
      refine Xg.ops_op (by kernel_rfl) (Xg.opx_pure ((pv p 0)) rfl (fun _ => by kernel_rfl) ?_)
      refine Xg.ops_op (by kernel_rfl) (Xg.opx_pure ((iv a)) rfl (fun _ => by kernel_rfl) ?_)
      refine Xg.ops_op (by kernel_rfl) (Xg.opx_call1' [0, 1, 2] [CR p h ra rn rc ma mn mc (V0 mb), bts ra rn rc R, bts ma mn mc M] (fun _ => by kernel_rfl) (@hce ) (by kernel_rfl) (by kernel_rfl) (by kernel_rfl) ?_)
      refine Xg.ops_op (by kernel_rfl) (Xg.opx_pure ((iv (↑cn : Int))) rfl (fun _ => by kernel_rfl) ?_)
      refine Xg.ops_nil ?_
      refine Xg.at_seq ?_
      refine Xg.at_block ?_
      refine Xg.at_seq ?_
      refine Xg.at_region ?_
      refine Xg.ops_op (by kernel_rfl) (Xg.opx_pure ((iv (↑cn : Int))) rfl (fun _ => by kernel_rfl) ?_)
      refine Xg.ops_op (by kernel_rfl) (Xg.opx_pure (.bool (decide ((((↑cn : Int)) : Int) < ((0 : Int))))) rfl (fun _ => by kernel_rfl) ?_)
      refine Xg.ops_op (by kernel_rfl) (Xg.opx_pure ((Value.bool (decide ((↑cn : Int) < (0 : Int))))) rfl (fun _ => by kernel_rfl) ?_)
      refine Xg.ops_nil ?_
      refine Xg.at_false (t := false) (by kernel_rfl) rfl ?_
      refine Xg.at_seq ?_
      refine Xg.at_region ?_
      refine Xg.ops_op (by kernel_rfl) (Xg.opx_pure ((pv p 0)) rfl (fun _ => by kernel_rfl) ?_)
      refine Xg.ops_op (by kernel_rfl) (Xg.opx_pure ((pv p 0)) rfl (fun _ => by kernel_rfl) ?_)
      refine Xg.ops_op (by kernel_rfl) (Xg.opx_pure ((pv p 0)) rfl (fun _ => by kernel_rfl) ?_)
      refine Xg.ops_op (by kernel_rfl) (Xg.opx_pure ((pv p 2)) rfl (fun _ => by kernel_rfl) ?_)
      refine Xg.ops_op (by kernel_rfl) (Xg.opx_load (b := p) (off := ((2 : Nat))) 0 (iv h.mp) rfl (by kernel_rfl) (by kernel_rfl) (by kernel_rfl) ?_)
      refine Xg.ops_op (by kernel_rfl) (Xg.opx_pure (.bool (decide ((h.mp : Int) = ((2 : Int))))) rfl (fun _ => by kernel_rfl) ?_)
      refine Xg.ops_op (by kernel_rfl) (Xg.opx_pure ((Value.bool (decide (h.mp = (2 : Int))))) rfl (fun _ => by kernel_rfl) ?_)
      refine Xg.ops_nil ?_
      refine Xg.at_false (t := decide ((h.mp = (2 : Int)))) (by kernel_rfl) (decide_eq_false (by omega)) ?_
      refine Xg.at_skip ?_
      refine Xg.at_inBlock ?_
      refine Xg.at_seq ?_
      refine Xg.at_region ?_
      refine Xg.ops_op (by kernel_rfl) (Xg.opx_pure ((pv p 0)) rfl (fun _ => by kernel_rfl) ?_)
      refine Xg.ops_op (by kernel_rfl) (Xg.opx_pure ((pv p 0)) rfl (fun _ => by kernel_rfl) ?_)
      refine Xg.ops_op (by kernel_rfl) (Xg.opx_pure ((pv p 7)) rfl (fun _ => by kernel_rfl) ?_)
      refine Xg.ops_op (by kernel_rfl) (Xg.opx_load (b := p) (off := ((7 : Nat))) 0 (Value.slice ma mn mc) rfl (by kernel_rfl) (by kernel_rfl) (by kernel_rfl) ?_)
      refine Xg.ops_op (by kernel_rfl) (Xg.opx_pure ((iv (↑cn : Int))) rfl (fun _ => by kernel_rfl) ?_)
      refine Xg.ops_op (by kernel_rfl) (Xg.opx_ix_own (elem := 5) (kd := .i64) (e := ((↑cn : Int))) 2 1 cn cn rfl (by kernel_rfl) (by kernel_rfl) (by kernel_rfl) (by kernel_rfl) rfl (by omega) (by omega) ?_)
      refine Xg.ops_op (by kernel_rfl) (Xg.opx_load_own (a := ma) (off := cn) 2 (uv (M.getD cn (0 : Int))) rfl (by kernel_rfl) (Xg.get_ints (by omega)) (by kernel_rfl) ?_)
      refine Xg.ops_op (by kernel_rfl) (Xg.opx_pure ((uv (M.getD cn (0 : Int)))) rfl (fun _ => by kernel_rfl) ?_)
      refine Xg.ops_nil ?_
      refine Xg.at_ret_ps (v := (uv (M.getD cn (0 : Int)))) [0, 1, 2] [CR p h ra rn rc ma mn mc (V0 mb), bts ra rn rc R, bts ma mn mc M] Go.Proofs.Tryd.func12 (fun _ => by kernel_rfl) (by kernel_rfl) (by kernel_rfl) ?_
      exact ⟨by kernel_rfl, by kernel_rfl⟩)
theorem writeR0_d (p mb : Nat) (h : Hd) (r : Rg) (ra : Option Addr) (rn rc : Nat) (ma : Option Addr) (mn mc : Nat) (R M : List Int) (a v : Int) (hwa : 0 ≤ a ∧ a < 32768) (hv : 0 ≤ v ∧ v ≤ 255) : Does Tryd.prog 13 [.pointer (some ⟨p, 0, none⟩), .int .i64 a, .int .u8 v] [CR p h ra rn rc ma mn mc (V0 mb), bts ra rn rc R, bts ma mn mc M] (Ret (.tuple #[]) [CR p h ra rn rc ma mn mc (V0 mb), bts ra rn rc R, bts ma mn mc M]) := by
  have hw := fwrite_d a v
  (focus
    refine Xg.spec_of Go.Proofs.Tryd.func13 rfl Go.Proofs.Tryd.ntmps13 fun g F => ?_)
  (focus
    refine Xg.at_seq ?_
    refine Xg.at_seq ?_
    refine Xg.at_region ?_
    refine Xg.ops_op (by kernel_rfl) (Xg.opx_pure ((iv a)) rfl (fun _ => by kernel_rfl) ?_)
    refine Xg.ops_op (by kernel_rfl) (Xg.opx_pure (.bool (decide ((a : Int) ≥ ((0 : Int))))) rfl (fun _ => by kernel_rfl) ?_)
    refine Xg.ops_op (by kernel_rfl) (Xg.opx_pure ((Value.bool (decide (a ≥ (0 : Int))))) rfl (fun _ => by kernel_rfl) ?_)
    refine Xg.ops_flag (j := 9) (c := (decide (a ≥ (0 : Int)))) (by kernel_rfl) (fun _ => ?_) (fun xh1 => absurd (of_decide_eq_false xh1) (by omega))
    refine Xg.ops_op (by kernel_rfl) (Xg.opx_pure ((iv a)) rfl (fun _ => by kernel_rfl) ?_)
    refine Xg.ops_op (by kernel_rfl) (Xg.opx_pure (.bool (decide ((a : Int) < ((32768 : Int))))) rfl (fun _ => by kernel_rfl) ?_)
    refine Xg.ops_flag (j := 11) (c := (decide (a < (32768 : Int)))) (by kernel_rfl) (fun _ => ?_) (fun xh1 => absurd (of_decide_eq_false xh1) (by omega))
    refine Xg.ops_op (by kernel_rfl) (Xg.opx_pure ((Value.bool true)) rfl (fun _ => by kernel_rfl) ?_)
    refine Xg.ops_nil ?_
    refine Xg.at_true (t := true) (by kernel_rfl) rfl ?_
    refine Xg.at_seq ?_
    refine Xg.at_region ?_
    refine Xg.ops_op (by kernel_rfl) (Xg.opx_pure ((pv p 0)) rfl (fun _ => by kernel_rfl) ?_)
    refine Xg.ops_op (by kernel_rfl) (Xg.opx_pure ((pv p 0)) rfl (fun _ => by kernel_rfl) ?_)
    refine Xg.ops_op (by kernel_rfl) (Xg.opx_pure ((pv p 8)) rfl (fun _ => by kernel_rfl) ?_)
    refine Xg.ops_op (by kernel_rfl) (Xg.opx_load (b := p) (off := ((8 : Nat))) 0 (Value.iface (84 : Nat) (Value.agg #[])) rfl (by kernel_rfl) (by kernel_rfl) (by kernel_rfl) ?_)
    refine Xg.ops_op (by kernel_rfl) (Xg.opx_pure ((iv a)) rfl (fun _ => by kernel_rfl) ?_)
    refine Xg.ops_op (by kernel_rfl) (Xg.opx_pure ((uv v)) rfl (fun _ => by kernel_rfl) ?_)
    refine Xg.ops_op (by kernel_rfl) (Xg.opx_call1' [] [CR p h ra rn rc ma mn mc (V0 mb), bts ra rn rc R, bts ma mn mc M] (fun _ => by kernel_rfl) (@hw ) (by kernel_rfl) (by kernel_rfl) (by kernel_rfl) ?_)
    refine Xg.ops_nil ?_
    refine Xg.at_ret_ps (v := (tu)) [0, 1, 2] [CR p h ra rn rc ma mn mc (V0 mb), bts ra rn rc R, bts ma mn mc M] Go.Proofs.Tryd.func13 (fun _ => by kernel_rfl) (by kernel_rfl) (by kernel_rfl) ?_
    exact ⟨by kernel_rfl, by kernel_rfl⟩)
theorem writeN0_d (p mb : Nat) (h : Hd) (r : Rg) (ra : Option Addr) (rn rc : Nat) (ma : Option Addr) (mn mc : Nat) (R M : List Int) (a v : Int) (ha : iok a) (hwa : a < 0 ∨ 32767 < a) (hv : 0 ≤ v ∧ v ≤ 255) (hr : r.Ok) (hbk : 2 ≤ h.bk ∧ h.bk ≤ 128) (hR : R.length = rn) (hrn : (rn : Int) = 16384 * h.bk) (hrc : rn ≤ rc) (hM : M.length = mn) (hmc : mn ≤ mc) (hB : isB M) (hmp : h.mp = 0) (hmo : ramOk 0 mn) (hc : cellI 0 r mn a < 0) : Does Tryd.prog 13 [.pointer (some ⟨p, 0, none⟩), .int .i64 a, .int .u8 v] [CR p h ra rn rc ma mn mc (V0 mb), bts ra rn rc R, bts ma mn mc M] (Ret (.tuple #[]) [CR p h ra rn rc ma mn mc (V0 mb), bts ra rn rc R, bts ma mn mc M]) := by
  have hce := cell0_d p mb h r ra rn rc ma mn mc R M a ha hr hbk hR hrn hrc hM hmc hB hmp hmo
  obtain ⟨ci, hci⟩ : ∃ ci, cellI 0 r mn a = ci := ⟨_, rfl⟩
  rw [hci] at hce hc
  by_cases h4 : a < 0
  · (focus
      refine Xg.spec_of Go.Proofs.Tryd.func13 rfl Go.Proofs.Tryd.ntmps13 fun g F => ?_)
    (focus
      refine Xg.at_seq ?_
      refine Xg.at_seq ?_
      refine Xg.at_region ?_
      refine Xg.ops_op (by kernel_rfl) (Xg.opx_pure ((iv a)) rfl (fun _ => by kernel_rfl) ?_)
      refine Xg.ops_op (by kernel_rfl) (Xg.opx_pure (.bool (decide ((a : Int) ≥ ((0 : Int))))) rfl (fun _ => by kernel_rfl) ?_)
      refine Xg.ops_op (by kernel_rfl) (Xg.opx_pure ((Value.bool (decide (a ≥ (0 : Int))))) rfl (fun _ => by kernel_rfl) ?_)
      refine Xg.ops_flag (j := 9) (c := (decide (a ≥ (0 : Int)))) (by kernel_rfl) (fun xh1 => absurd (of_decide_eq_true xh1) (by omega)) (fun _ => ?_)
      refine Xg.ops_skip (by kernel_rfl) ?_
      refine Xg.ops_skip (by kernel_rfl) ?_
      refine Xg.ops_op (by kernel_rfl) (Xg.opx_pure ((Value.bool false)) rfl (fun _ => by kernel_rfl) ?_)
      refine Xg.ops_nil ?_
      refine Xg.at_false (t := false) (by kernel_rfl) rfl ?_
      refine Xg.at_skip ?_
      refine Xg.at_seq ?_
      refine Xg.at_region ?_
      refine Xg.ops_op (by kernel_rfl) (Xg.opx_pure ((pv p 0)) rfl (fun _ => by kernel_rfl) ?_)
      refine Xg.ops_op (by kernel_rfl) (Xg.opx_pure ((iv a)) rfl (fun _ => by kernel_rfl) ?_)
      refine Xg.ops_op (by kernel_rfl) (Xg.opx_call1' [0, 1, 2] [CR p h ra rn rc ma mn mc (V0 mb), bts ra rn rc R, bts ma mn mc M] (fun _ => by kernel_rfl) (@hce ) (by kernel_rfl) (by kernel_rfl) (by kernel_rfl) ?_)
      refine Xg.ops_op (by kernel_rfl) (Xg.opx_pure ((iv ci)) rfl (fun _ => by kernel_rfl) ?_)
      refine Xg.ops_nil ?_
      refine Xg.at_seq ?_
      refine Xg.at_seq ?_
      refine Xg.at_region ?_
      refine Xg.ops_op (by kernel_rfl) (Xg.opx_pure ((iv ci)) rfl (fun _ => by kernel_rfl) ?_)
      refine Xg.ops_op (by kernel_rfl) (Xg.opx_pure (.bool (decide ((ci : Int) < ((0 : Int))))) rfl (fun _ => by kernel_rfl) ?_)
      refine Xg.ops_nil ?_
      refine Xg.at_true (t := decide ((ci < (0 : Int)))) (by kernel_rfl) (decide_eq_true (by omega)) ?_
      refine Xg.at_ret_ps (v := (tu)) [0, 1, 2] [CR p h ra rn rc ma mn mc (V0 mb), bts ra rn rc R, bts ma mn mc M] Go.Proofs.Tryd.func13 (fun _ => by kernel_rfl) (by kernel_rfl) (by kernel_rfl) ?_
      exact ⟨by kernel_rfl, by kernel_rfl⟩)
  · (focus
      refine Xg.spec_of Go.Proofs.Tryd.func13 rfl Go.Proofs.Tryd.ntmps13 fun g F => ?_)
    (focus
      refine Xg.at_seq ?_
      refine Xg.at_seq ?_
      refine Xg.at_region ?_
      refine Xg.ops_op (by kernel_rfl) (Xg.opx_pure ((iv a)) rfl (fun _ => by kernel_rfl) ?_)
      refine Xg.ops_op (by kernel_rfl) (Xg.opx_pure (.bool (decide ((a : Int) ≥ ((0 : Int))))) rfl (fun _ => by kernel_rfl) ?_)
      refine Xg.ops_op (by kernel_rfl) (Xg.opx_pure ((Value.bool (decide (a ≥ (0 : Int))))) rfl (fun _ => by kernel_rfl) ?_)
      refine Xg.ops_flag (j := 9) (c := (decide (a ≥ (0 : Int)))) (by kernel_rfl) (fun _ => ?_) (fun xh1 => absurd (of_decide_eq_false xh1) (by omega))
      refine Xg.ops_op (by kernel_rfl) (Xg.opx_pure ((iv a)) rfl (fun _ => by kernel_rfl) ?_)
      refine Xg.ops_op (by kernel_rfl) (Xg.opx_pure (.bool (decide ((a : Int) < ((32768 : Int))))) rfl (fun _ => by kernel_rfl) ?_)
      refine Xg.ops_flag (j := 11) (c := (decide (a < (32768 : Int)))) (by kernel_rfl) (fun xh1 => absurd (of_decide_eq_true xh1) (by omega)) (fun _ => ?_)
      refine Xg.ops_op (by kernel_rfl) (Xg.opx_pure ((Value.bool false)) rfl (fun _ => by kernel_rfl) ?_)
      refine Xg.ops_nil ?_
      refine Xg.at_false (t := false) (by kernel_rfl) rfl ?_
      refine Xg.at_skip ?_
      refine Xg.at_seq ?_
      refine Xg.at_region ?_
      refine Xg.ops_op (by kernel_rfl) (Xg.opx_pure ((pv p 0)) rfl (fun _ => by kernel_rfl) ?_)
      refine Xg.ops_op (by kernel_rfl) (Xg.opx_pure ((iv a)) rfl (fun _ => by kernel_rfl) ?_)
      refine Xg.ops_op (by kernel_rfl) (Xg.opx_call1' [0, 1, 2] [CR p h ra rn rc ma mn mc (V0 mb), bts ra rn rc R, bts ma mn mc M] (fun _ => by kernel_rfl) (@hce ) (by kernel_rfl) (by kernel_rfl) (by kernel_rfl) ?_)
      refine Xg.ops_op (by kernel_rfl) (Xg.opx_pure ((iv ci)) rfl (fun _ => by kernel_rfl) ?_)
      refine Xg.ops_nil ?_
      refine Xg.at_seq ?_
      refine Xg.at_seq ?_
      refine Xg.at_region ?_
      refine Xg.ops_op (by kernel_rfl) (Xg.opx_pure ((iv ci)) rfl (fun _ => by kernel_rfl) ?_)
      refine Xg.ops_op (by kernel_rfl) (Xg.opx_pure (.bool (decide ((ci : Int) < ((0 : Int))))) rfl (fun _ => by kernel_rfl) ?_)
      refine Xg.ops_nil ?_
      refine Xg.at_true (t := decide ((ci < (0 : Int)))) (by kernel_rfl) (decide_eq_true (by omega)) ?_
      refine Xg.at_ret_ps (v := (tu)) [0, 1, 2] [CR p h ra rn rc ma mn mc (V0 mb), bts ra rn rc R, bts ma mn mc M] Go.Proofs.Tryd.func13 (fun _ => by kernel_rfl) (by kernel_rfl) (by kernel_rfl) ?_
      exact ⟨by kernel_rfl, by kernel_rfl⟩)
theorem writeM0_d (p mb : Nat) (h : Hd) (r : Rg) (ra : Option Addr) (rn rc : Nat) (ma : Option Addr) (mn mc : Nat) (R M : List Int) (a v : Int) (ha : iok a) (hwa : a < 0 ∨ 32767 < a) (hv : 0 ≤ v ∧ v ≤ 255) (hr : r.Ok) (hbk : 2 ≤ h.bk ∧ h.bk ≤ 128) (hR : R.length = rn) (hrn : (rn : Int) = 16384 * h.bk) (hrc : rn ≤ rc) (hM : M.length = mn) (hmc : mn ≤ mc) (hB : isB M) (hmp : h.mp = 0) (hmo : ramOk 0 mn) (hc : ¬ cellI 0 r mn a < 0) : Does Tryd.prog 13 [.pointer (some ⟨p, 0, none⟩), .int .i64 a, .int .u8 v] [CR p h ra rn rc ma mn mc (V0 mb), bts ra rn rc R, bts ma mn mc M] (Ret (.tuple #[]) [CR p h ra rn rc ma mn mc (V0 mb), bts ra rn rc R, bts ma mn mc (M.set (cellI 0 r mn a).toNat v)]) := by
  have hce := cell0_d p mb h r ra rn rc ma mn mc R M a ha hr hbk hR hrn hrc hM hmc hB hmp hmo
  have hlt := cell_lt 0 r mn a hr hmo hc
  obtain ⟨ci, hci⟩ : ∃ ci, cellI 0 r mn a = ci := ⟨_, rfl⟩
  rw [hci] at hce hc hlt ⊢
  obtain ⟨cn, rfl⟩ : ∃ cn : Nat, ci = (cn : Int) := ⟨ci.toNat, by omega⟩
  rw [Int.toNat_natCast]
  have hl9 : cn < M.length := by omega
  by_cases h4 : a < 0
  · (focus
      refine Xg.spec_of Go.Proofs.Tryd.func13 rfl Go.Proofs.Tryd.ntmps13 fun g F => ?_)
    (focus
      refine Xg.at_seq ?_
      refine Xg.at_seq ?_
      refine Xg.at_region ?_
      refine Xg.ops_op (by kernel_rfl) (Xg.opx_pure ((iv a)) rfl (fun _ => by kernel_rfl) ?_)
      refine Xg.ops_op (by kernel_rfl) (Xg.opx_pure (.bool (decide ((a : Int) ≥ ((0 : Int))))) rfl (fun _ => by kernel_rfl) ?_)
      refine Xg.ops_op (by kernel_rfl) (Xg.opx_pure ((Value.bool (decide (a ≥ (0 : Int))))) rfl (fun _ => by kernel_rfl) ?_)
      refine Xg.ops_flag (j := 9) (c := (decide (a ≥ (0 : Int)))) (by kernel_rfl) (fun xh1 => absurd (of_decide_eq_true xh1) (by omega)) (fun _ => ?_)
      refine Xg.ops_skip (by kernel_rfl) ?_
      refine Xg.ops_skip (by kernel_rfl) ?_
      refine Xg.ops_op (by kernel_rfl) (Xg.opx_pure ((Value.bool false)) rfl (fun _ => by kernel_rfl) ?_)
      refine Xg.ops_nil ?_
      refine Xg.at_false (t := false) (by kernel_rfl) rfl ?_
      refine Xg.at_skip ?_
      refine Xg.at_seq ?_
      refine Xg.at_region ?_
      refine Xg.ops_op (by kernel_rfl) (Xg.opx_pure ((pv p 0)) rfl (fun _ => by kernel_rfl) ?_)
      refine Xg.ops_op (by kernel_rfl) (Xg.opx_pure ((iv a)) rfl (fun _ => by kernel_rfl) ?_)
      refine Xg.ops_op (by kernel_rfl) (Xg.opx_call1' [0, 1, 2] [CR p h ra rn rc ma mn mc (V0 mb), bts ra rn rc R, bts ma mn mc M] (fun _ => by kernel_rfl) (@hce ) (by kernel_rfl) (by kernel_rfl) (by kernel_rfl) ?_)
      refine Xg.ops_op (by kernel_rfl) (Xg.opx_pure ((iv (↑cn : Int))) rfl (fun _ => by kernel_rfl) ?_)
      refine Xg.ops_nil ?_
      refine Xg.at_seq ?_
      refine Xg.at_seq ?_
      refine Xg.at_region ?_
      refine Xg.ops_op (by kernel_rfl) (Xg.opx_pure ((iv (↑cn : Int))) rfl (fun _ => by kernel_rfl) ?_)
      refine Xg.ops_op (by kernel_rfl) (Xg.opx_pure (.bool (decide ((((↑cn : Int)) : Int) < ((0 : Int))))) rfl (fun _ => by kernel_rfl) ?_)
      refine Xg.ops_nil ?_
      refine Xg.at_false (t := false) (by kernel_rfl) rfl ?_
      refine Xg.at_skip ?_
      refine Xg.at_seq ?_
      refine Xg.at_seq ?_
      refine Xg.at_region ?_
      refine Xg.ops_op (by kernel_rfl) (Xg.opx_pure ((pv p 0)) rfl (fun _ => by kernel_rfl) ?_)
      refine Xg.ops_op (by kernel_rfl) (Xg.opx_pure ((pv p 0)) rfl (fun _ => by kernel_rfl) ?_)
      refine Xg.ops_op (by kernel_rfl) (Xg.opx_pure ((pv p 0)) rfl (fun _ => by kernel_rfl) ?_)
      refine Xg.ops_op (by kernel_rfl) (Xg.opx_pure ((pv p 2)) rfl (fun _ => by kernel_rfl) ?_)
      refine Xg.ops_op (by kernel_rfl) (Xg.opx_load (b := p) (off := ((2 : Nat))) 0 (iv h.mp) rfl (by kernel_rfl) (by kernel_rfl) (by kernel_rfl) ?_)
      refine Xg.ops_op (by kernel_rfl) (Xg.opx_pure (.bool (decide ((h.mp : Int) = ((2 : Int))))) rfl (fun _ => by kernel_rfl) ?_)
      refine Xg.ops_nil ?_
      refine Xg.at_false (t := decide ((h.mp = (2 : Int)))) (by kernel_rfl) (decide_eq_false (by omega)) ?_
      refine Xg.at_skip ?_
      refine Xg.at_region ?_
      refine Xg.ops_op (by kernel_rfl) (Xg.opx_pure ((pv p 0)) rfl (fun _ => by kernel_rfl) ?_)
      refine Xg.ops_op (by kernel_rfl) (Xg.opx_pure ((pv p 0)) rfl (fun _ => by kernel_rfl) ?_)
      refine Xg.ops_op (by kernel_rfl) (Xg.opx_pure ((pv p 7)) rfl (fun _ => by kernel_rfl) ?_)
      refine Xg.ops_op (by kernel_rfl) (Xg.opx_load (b := p) (off := ((7 : Nat))) 0 (Value.slice ma mn mc) rfl (by kernel_rfl) (by kernel_rfl) (by kernel_rfl) ?_)
      refine Xg.ops_op (by kernel_rfl) (Xg.opx_pure ((iv (↑cn : Int))) rfl (fun _ => by kernel_rfl) ?_)
      refine Xg.ops_op (by kernel_rfl) (Xg.opx_pure ((uv v)) rfl (fun _ => by kernel_rfl) ?_)
      refine Xg.ops_op (by kernel_rfl) (Xg.opx_ix_own (elem := 5) (kd := .i64) (e := ((↑cn : Int))) 2 1 cn cn rfl (by kernel_rfl) (by kernel_rfl) (by kernel_rfl) (by kernel_rfl) rfl (by omega) (by omega) ?_)
      refine Xg.ops_op (by kernel_rfl) (Xg.opx_store_own_i (a := ma) (off := cn) (kd := .u8) (xs := M) (e := v) 2 (by kernel_rfl) rfl (by kernel_rfl) (by kernel_rfl) (by first | omega | (simp only [List.length_set]; omega)) ?_)
      refine Xg.ops_nil ?_
      refine Xg.at_end_ps (v := (tu)) [0, 1, 2] [CR p h ra rn rc ma mn mc (V0 mb), bts ra rn rc R, ownS (5 : TypeId) (1 : Nat) (Value.slice ma mn mc) mn (List.map (Value.int IntKind.u8) (M.set cn v))] Go.Proofs.Tryd.func13 (fun _ => by kernel_rfl) (by kernel_rfl) (by kernel_rfl) ?_
      exact ⟨by kernel_rfl, by kernel_rfl⟩)
  · (focus
      refine Xg.spec_of Go.Proofs.Tryd.func13 rfl Go.Proofs.Tryd.ntmps13 fun g F => ?_)
    (focus
      refine Xg.at_seq ?_
      refine Xg.at_seq ?_
      refine Xg.at_region ?_
      refine Xg.ops_op (by kernel_rfl) (Xg.opx_pure ((iv a)) rfl (fun _ => by kernel_rfl) ?_)
      refine Xg.ops_op (by kernel_rfl) (Xg.opx_pure (.bool (decide ((a : Int) ≥ ((0 : Int))))) rfl (fun _ => by kernel_rfl) ?_)
      refine Xg.ops_op (by kernel_rfl) (Xg.opx_pure ((Value.bool (decide (a ≥ (0 : Int))))) rfl (fun _ => by kernel_rfl) ?_)
      refine Xg.ops_flag (j := 9) (c := (decide (a ≥ (0 : Int)))) (by kernel_rfl) (fun _ => ?_) (fun xh1 => absurd (of_decide_eq_false xh1) (by omega))
      refine Xg.ops_op (by kernel_rfl) (Xg.opx_pure ((iv a)) rfl (fun _ => by kernel_rfl) ?_)
      refine Xg.ops_op (by kernel_rfl) (Xg.opx_pure (.bool (decide ((a : Int) < ((32768 : Int))))) rfl (fun _ => by kernel_rfl) ?_)
      refine Xg.ops_flag (j := 11) (c := (decide (a < (32768 : Int)))) (by kernel_rfl) (fun xh1 => absurd (of_decide_eq_true xh1) (by omega)) (fun _ => ?_)
      refine Xg.ops_op (by kernel_rfl) (Xg.opx_pure ((Value.bool false)) rfl (fun _ => by kernel_rfl) ?_)
      refine Xg.ops_nil ?_
      refine Xg.at_false (t := false) (by kernel_rfl) rfl ?_
      refine Xg.at_skip ?_
      refine Xg.at_seq ?_
      refine Xg.at_region ?_
      refine Xg.ops_op (by kernel_rfl) (Xg.opx_pure ((pv p 0)) rfl (fun _ => by kernel_rfl) ?_)
      refine Xg.ops_op (by kernel_rfl) (Xg.opx_pure ((iv a)) rfl (fun _ => by kernel_rfl) ?_)
      refine Xg.ops_op (by kernel_rfl) (Xg.opx_call1' [0, 1, 2] [CR p h ra rn rc ma mn mc (V0 mb), bts ra rn rc R, bts ma mn mc M] (fun _ => by kernel_rfl) (@hce ) (by kernel_rfl) (by kernel_rfl) (by kernel_rfl) ?_)
      refine Xg.ops_op (by kernel_rfl) (Xg.opx_pure ((iv (↑cn : Int))) rfl (fun _ => by kernel_rfl) ?_)
      refine Xg.ops_nil ?_
      refine Xg.at_seq ?_
      refine Xg.at_seq ?_
      refine Xg.at_region ?_
      refine Xg.ops_op (by kernel_rfl) (Xg.opx_pure ((iv (↑cn : Int))) rfl (fun _ => by kernel_rfl) ?_)
      refine Xg.ops_op (by kernel_rfl) (Xg.opx_pure (.bool (decide ((((↑cn : Int)) : Int) < ((0 : Int))))) rfl (fun _ => by kernel_rfl) ?_)
      refine Xg.ops_nil ?_
      refine Xg.at_false (t := false) (by kernel_rfl) rfl ?_
      refine Xg.at_skip ?_
      refine Xg.at_seq ?_
      refine Xg.at_seq ?_
      refine Xg.at_region ?_
      refine Xg.ops_op (by kernel_rfl) (Xg.opx_pure ((pv p 0)) rfl (fun _ => by kernel_rfl) ?_)
      refine Xg.ops_op (by kernel_rfl) (Xg.opx_pure ((pv p 0)) rfl (fun _ => by kernel_rfl) ?_)
      refine Xg.ops_op (by kernel_rfl) (Xg.opx_pure ((pv p 0)) rfl (fun _ => by kernel_rfl) ?_)
      refine Xg.ops_op (by kernel_rfl) (Xg.opx_pure ((pv p 2)) rfl (fun _ => by kernel_rfl) ?_)
      refine Xg.ops_op (by kernel_rfl) (Xg.opx_load (b := p) (off := ((2 : Nat))) 0 (iv h.mp) rfl (by kernel_rfl) (by kernel_rfl) (by kernel_rfl) ?_)
      refine Xg.ops_op (by kernel_rfl) (Xg.opx_pure (.bool (decide ((h.mp : Int) = ((2 : Int))))) rfl (fun _ => by kernel_rfl) ?_)
      refine Xg.ops_nil ?_
      refine Xg.at_false (t := decide ((h.mp = (2 : Int)))) (by kernel_rfl) (decide_eq_false (by omega)) ?_
      refine Xg.at_skip ?_
      refine Xg.at_region ?_
      refine Xg.ops_op (by kernel_rfl) (Xg.opx_pure ((pv p 0)) rfl (fun _ => by kernel_rfl) ?_)
      refine Xg.ops_op (by kernel_rfl) (Xg.opx_pure ((pv p 0)) rfl (fun _ => by kernel_rfl) ?_)
      refine Xg.ops_op (by kernel_rfl) (Xg.opx_pure ((pv p 7)) rfl (fun _ => by kernel_rfl) ?_)
      refine Xg.ops_op (by kernel_rfl) (Xg.opx_load (b := p) (off := ((7 : Nat))) 0 (Value.slice ma mn mc) rfl (by kernel_rfl) (by kernel_rfl) (by kernel_rfl) ?_)
      refine Xg.ops_op (by kernel_rfl) (Xg.opx_pure ((iv (↑cn : Int))) rfl (fun _ => by kernel_rfl) ?_)
      refine Xg.ops_op (by kernel_rfl) (Xg.opx_pure ((uv v)) rfl (fun _ => by kernel_rfl) ?_)
      refine Xg.ops_op (by kernel_rfl) (Xg.opx_ix_own (elem := 5) (kd := .i64) (e := ((↑cn : Int))) 2 1 cn cn rfl (by kernel_rfl) (by kernel_rfl) (by kernel_rfl) (by kernel_rfl) rfl (by omega) (by omega) ?_)
      refine Xg.ops_op (by kernel_rfl) (Xg.opx_store_own_i (a := ma) (off := cn) (kd := .u8) (xs := M) (e := v) 2 (by kernel_rfl) rfl (by kernel_rfl) (by kernel_rfl) (by first | omega | (simp only [List.length_set]; omega)) ?_)
      refine Xg.ops_nil ?_
      refine Xg.at_end_ps (v := (tu)) [0, 1, 2] [CR p h ra rn rc ma mn mc (V0 mb), bts ra rn rc R, ownS (5 : TypeId) (1 : Nat) (Value.slice ma mn mc) mn (List.map (Value.int IntKind.u8) (M.set cn v))] Go.Proofs.Tryd.func13 (fun _ => by kernel_rfl) (by kernel_rfl) (by kernel_rfl) ?_
      exact ⟨by kernel_rfl, by kernel_rfl⟩)
theorem read1_d (p mb : Nat) (h : Hd) (r : Rg) (ra : Option Addr) (rn rc : Nat) (ma : Option Addr) (mn mc : Nat) (R M : List Int) (a : Int) (ha : iok a) (hr : r.Ok) (hbk : 2 ≤ h.bk ∧ h.bk ≤ 128) (hR : R.length = rn) (hrn : (rn : Int) = 16384 * h.bk) (hrc : rn ≤ rc) (hM : M.length = mn) (hmc : mn ≤ mc) (hB : isB M) (hmp : h.mp = 1) (hmo : ramOk 1 mn) : Does Tryd.prog 12 [.pointer (some ⟨p, 0, none⟩), .int .i64 a] [CR p h ra rn rc ma mn mc (V1 mb), bts ra rn rc R, bts ma mn mc M, MR1 mb r] (Ret (.int .u8 (readI 1 r h.bk R M a)) [CR p h ra rn rc ma mn mc (V1 mb), bts ra rn rc R, bts ma mn mc M, MR1 mb r]) := by
  have hlo := low1_d mb r hr
  have hhi := high1_d mb r hr
  rw [show (if r.md = 1 then r.pk * 32 else 0) = lowB 1 r by unfold lowB; simp] at hlo
  have hce := cell1_d p mb h r ra rn rc ma mn mc R M a ha hr hbk hR hrn hrc hM hmc hB hmp hmo
  obtain ⟨hb1, hb2, hb3, hb4⟩ := bank_ok 1 r hr
  have hlt := cell_lt 1 r mn a hr hmo
  unfold readI
  rw [hM]
  by_cases h1 : 0 ≤ a ∧ a < 16384
  · have hat := at_d p h ra rn rc ma mn mc (V1 mb) R (lowB 1 r) a ⟨hb1, hb2⟩ ⟨by omega, by omega⟩ ⟨by omega, by omega⟩ hR hrn hrc
    rw [if_pos h1]
    (focus
      refine Xg.spec_of Go.Proofs.Tryd.func12 rfl Go.Proofs.Tryd.ntmps12 fun g F => ?_)
    (focus
      refine Xg.at_seq ?_
      refine Xg.at_region ?_
      refine Xg.ops_op (by kernel_rfl) (Xg.opx_pure ((uv 0)) rfl (fun _ => by kernel_rfl) ?_)
      refine Xg.ops_nil ?_
      refine Xg.at_seq ?_
      refine Xg.at_block ?_
      refine Xg.at_seq ?_
      refine Xg.at_region ?_
      refine Xg.ops_op (by kernel_rfl) (Xg.opx_pure ((iv a)) rfl (fun _ => by kernel_rfl) ?_)
      refine Xg.ops_op (by kernel_rfl) (Xg.opx_pure (.bool (decide ((a : Int) ≥ ((0 : Int))))) rfl (fun _ => by kernel_rfl) ?_)
      refine Xg.ops_op (by kernel_rfl) (Xg.opx_pure ((Value.bool (decide (a ≥ (0 : Int))))) rfl (fun _ => by kernel_rfl) ?_)
      refine Xg.ops_flag (j := 9) (c := (decide (a ≥ (0 : Int)))) (by kernel_rfl) (fun _ => ?_) (fun xh1 => absurd (of_decide_eq_false xh1) (by omega))
      refine Xg.ops_op (by kernel_rfl) (Xg.opx_pure ((iv a)) rfl (fun _ => by kernel_rfl) ?_)
      refine Xg.ops_op (by kernel_rfl) (Xg.opx_pure (.bool (decide ((a : Int) < ((16384 : Int))))) rfl (fun _ => by kernel_rfl) ?_)
      refine Xg.ops_flag (j := 11) (c := (decide (a < (16384 : Int)))) (by kernel_rfl) (fun _ => ?_) (fun xh1 => absurd (of_decide_eq_false xh1) (by omega))
      refine Xg.ops_op (by kernel_rfl) (Xg.opx_pure ((Value.bool true)) rfl (fun _ => by kernel_rfl) ?_)
      refine Xg.ops_op (by kernel_rfl) (Xg.opx_pure ((Value.bool true)) rfl (fun _ => by kernel_rfl) ?_)
      refine Xg.ops_nil ?_
      refine Xg.at_true (t := true) (by kernel_rfl) rfl ?_
      refine Xg.at_seq ?_
      refine Xg.at_region ?_
      refine Xg.ops_op (by kernel_rfl) (Xg.opx_pure ((pv p 0)) rfl (fun _ => by kernel_rfl) ?_)
      refine Xg.ops_op (by kernel_rfl) (Xg.opx_pure ((pv p 0)) rfl (fun _ => by kernel_rfl) ?_)
      refine Xg.ops_op (by kernel_rfl) (Xg.opx_pure ((pv p 0)) rfl (fun _ => by kernel_rfl) ?_)
      refine Xg.ops_op (by kernel_rfl) (Xg.opx_pure ((pv p 8)) rfl (fun _ => by kernel_rfl) ?_)
      refine Xg.ops_op (by kernel_rfl) (Xg.opx_load (b := p) (off := ((8 : Nat))) 0 (Value.iface (72 : Nat) (pv mb 0)) rfl (by kernel_rfl) (by kernel_rfl) (by kernel_rfl) ?_)
      refine Xg.ops_op (by kernel_rfl) (Xg.opx_call1' [3] [MR1 mb r, CR p h ra rn rc ma mn mc (V1 mb), bts ra rn rc R, bts ma mn mc M] (fun _ => by kernel_rfl) (@hlo ) (by kernel_rfl) (by kernel_rfl) (by kernel_rfl) ?_)
      refine Xg.ops_op (by kernel_rfl) (Xg.opx_pure ((iv a)) rfl (fun _ => by kernel_rfl) ?_)
      refine Xg.ops_op (by kernel_rfl) (Xg.opx_call1' [1, 2] [CR p h ra rn rc ma mn mc (V1 mb), bts ra rn rc R, MR1 mb r, bts ma mn mc M] (fun _ => by kernel_rfl) (@hat ) (by kernel_rfl) (by kernel_rfl) (by kernel_rfl) ?_)
      refine Xg.ops_op (by kernel_rfl) (Xg.opx_pure ((uv (R.getD (lowB (1 : Nat) r % h.bk * (16384 : Int) + a % (16384 : Int)).toNat (0 : Int)))) rfl (fun _ => by kernel_rfl) ?_)
      refine Xg.ops_nil ?_
      refine Xg.at_ret_ps (v := (uv (R.getD (lowB (1 : Nat) r % h.bk * (16384 : Int) + a % (16384 : Int)).toNat (0 : Int)))) [0, 1, 3, 2] [CR p h ra rn rc ma mn mc (V1 mb), bts ra rn rc R, bts ma mn mc M, MR1 mb r] Go.Proofs.Tryd.func12 (fun _ => by kernel_rfl) (by kernel_rfl) (by kernel_rfl) ?_
      exact ⟨by kernel_rfl, by kernel_rfl⟩)
  rw [if_neg h1]
  by_cases h2 : 16384 ≤ a ∧ a < 32768
  · have hat := at_d p h ra rn rc ma mn mc (V1 mb) R (highB 1 r) a ⟨hb3, hb4⟩ ⟨by omega, by omega⟩ ⟨by omega, by omega⟩ hR hrn hrc
    rw [if_pos h2]
    (focus
      refine Xg.spec_of Go.Proofs.Tryd.func12 rfl Go.Proofs.Tryd.ntmps12 fun g F => ?_)
    (focus
      refine Xg.at_seq ?_
      refine Xg.at_region ?_
      refine Xg.ops_op (by kernel_rfl) (Xg.opx_pure ((uv 0)) rfl (fun _ => by kernel_rfl) ?_)
      refine Xg.ops_nil ?_
      refine Xg.at_seq ?_
      refine Xg.at_block ?_
      refine Xg.at_seq ?_
      refine Xg.at_region ?_
      refine Xg.ops_op (by kernel_rfl) (Xg.opx_pure ((iv a)) rfl (fun _ => by kernel_rfl) ?_)
      refine Xg.ops_op (by kernel_rfl) (Xg.opx_pure (.bool (decide ((a : Int) ≥ ((0 : Int))))) rfl (fun _ => by kernel_rfl) ?_)
      refine Xg.ops_op (by kernel_rfl) (Xg.opx_pure ((Value.bool (decide (a ≥ (0 : Int))))) rfl (fun _ => by kernel_rfl) ?_)
      refine Xg.ops_flag (j := 9) (c := (decide (a ≥ (0 : Int)))) (by kernel_rfl) (fun _ => ?_) (fun xh1 => absurd (of_decide_eq_false xh1) (by omega))
      refine Xg.ops_op (by kernel_rfl) (Xg.opx_pure ((iv a)) rfl (fun _ => by kernel_rfl) ?_)
      refine Xg.ops_op (by kernel_rfl) (Xg.opx_pure (.bool (decide ((a : Int) < ((16384 : Int))))) rfl (fun _ => by kernel_rfl) ?_)
      refine Xg.ops_flag (j := 11) (c := (decide (a < (16384 : Int)))) (by kernel_rfl) (fun xh1 => absurd (of_decide_eq_true xh1) (by omega)) (fun _ => ?_)
      refine Xg.ops_op (by kernel_rfl) (Xg.opx_pure ((Value.bool false)) rfl (fun _ => by kernel_rfl) ?_)
      refine Xg.ops_op (by kernel_rfl) (Xg.opx_pure ((Value.bool false)) rfl (fun _ => by kernel_rfl) ?_)
      refine Xg.ops_nil ?_
      refine Xg.at_false (t := false) (by kernel_rfl) rfl ?_
      refine Xg.at_seq ?_
      refine Xg.at_region ?_
      refine Xg.ops_op (by kernel_rfl) (Xg.opx_pure ((iv a)) rfl (fun _ => by kernel_rfl) ?_)
      refine Xg.ops_op (by kernel_rfl) (Xg.opx_pure (.bool (decide ((a : Int) ≥ ((16384 : Int))))) rfl (fun _ => by kernel_rfl) ?_)
      refine Xg.ops_op (by kernel_rfl) (Xg.opx_pure ((Value.bool (decide (a ≥ (16384 : Int))))) rfl (fun _ => by kernel_rfl) ?_)
      refine Xg.ops_flag (j := 24) (c := (decide (a ≥ (16384 : Int)))) (by kernel_rfl) (fun _ => ?_) (fun xh1 => absurd (of_decide_eq_false xh1) (by omega))
      refine Xg.ops_op (by kernel_rfl) (Xg.opx_pure ((iv a)) rfl (fun _ => by kernel_rfl) ?_)
      refine Xg.ops_op (by kernel_rfl) (Xg.opx_pure (.bool (decide ((a : Int) < ((32768 : Int))))) rfl (fun _ => by kernel_rfl) ?_)
      refine Xg.ops_flag (j := 26) (c := (decide (a < (32768 : Int)))) (by kernel_rfl) (fun _ => ?_) (fun xh1 => absurd (of_decide_eq_false xh1) (by omega))
      refine Xg.ops_op (by kernel_rfl) (Xg.opx_pure ((Value.bool true)) rfl (fun _ => by kernel_rfl) ?_)
      refine Xg.ops_op (by kernel_rfl) (Xg.opx_pure ((Value.bool true)) rfl (fun _ => by kernel_rfl) ?_)
      refine Xg.ops_nil ?_
      refine Xg.at_true (t := true) (by kernel_rfl) rfl ?_
      refine Xg.at_seq ?_
      refine Xg.at_region ?_
      refine Xg.ops_op (by kernel_rfl) (Xg.opx_pure ((pv p 0)) rfl (fun _ => by kernel_rfl) ?_)
      refine Xg.ops_op (by kernel_rfl) (Xg.opx_pure ((pv p 0)) rfl (fun _ => by kernel_rfl) ?_)
      refine Xg.ops_op (by kernel_rfl) (Xg.opx_pure ((pv p 0)) rfl (fun _ => by kernel_rfl) ?_)
      refine Xg.ops_op (by kernel_rfl) (Xg.opx_pure ((pv p 8)) rfl (fun _ => by kernel_rfl) ?_)
      refine Xg.ops_op (by kernel_rfl) (Xg.opx_load (b := p) (off := ((8 : Nat))) 0 (Value.iface (72 : Nat) (pv mb 0)) rfl (by kernel_rfl) (by kernel_rfl) (by kernel_rfl) ?_)
      refine Xg.ops_op (by kernel_rfl) (Xg.opx_call1' [3] [MR1 mb r, CR p h ra rn rc ma mn mc (V1 mb), bts ra rn rc R, bts ma mn mc M] (fun _ => by kernel_rfl) (@hhi ) (by kernel_rfl) (by kernel_rfl) (by kernel_rfl) ?_)
      refine Xg.ops_op (by kernel_rfl) (Xg.opx_pure ((iv a)) rfl (fun _ => by kernel_rfl) ?_)
      refine Xg.ops_op (by kernel_rfl) (Xg.opx_call1' [1, 2] [CR p h ra rn rc ma mn mc (V1 mb), bts ra rn rc R, MR1 mb r, bts ma mn mc M] (fun _ => by kernel_rfl) (@hat ) (by kernel_rfl) (by kernel_rfl) (by kernel_rfl) ?_)
      refine Xg.ops_op (by kernel_rfl) (Xg.opx_pure ((uv (R.getD (highB (1 : Nat) r % h.bk * (16384 : Int) + a % (16384 : Int)).toNat (0 : Int)))) rfl (fun _ => by kernel_rfl) ?_)
      refine Xg.ops_nil ?_
      refine Xg.at_ret_ps (v := (uv (R.getD (highB (1 : Nat) r % h.bk * (16384 : Int) + a % (16384 : Int)).toNat (0 : Int)))) [0, 1, 3, 2] [CR p h ra rn rc ma mn mc (V1 mb), bts ra rn rc R, bts ma mn mc M, MR1 mb r] Go.Proofs.Tryd.func12 (fun _ => by kernel_rfl) (by kernel_rfl) (by kernel_rfl) ?_
      exact ⟨by kernel_rfl, by kernel_rfl⟩)
  rw [if_neg h2]
  have h12 : a < 0 ∨ 32767 < a := by omega
  obtain ⟨ci, hci⟩ : ∃ ci, cellI 1 r mn a = ci := ⟨_, rfl⟩
  rw [hci] at hce hlt ⊢
  by_cases h3 : ci < 0
  · rw [if_pos h3]
    by_cases h4 : a < 0
    · (focus
        refine Xg.spec_of Go.Proofs.Tryd.func12 rfl Go.Proofs.Tryd.ntmps12 fun g F => ?_)
      (focus
        refine Xg.at_seq ?_
        refine Xg.at_region ?_
        refine Xg.ops_op (by kernel_rfl) (Xg.opx_pure ((uv 0)) rfl (fun _ => by kernel_rfl) ?_)
        refine Xg.ops_nil ?_
        refine Xg.at_seq ?_
        refine Xg.at_block ?_
        refine Xg.at_seq ?_
        refine Xg.at_region ?_
        refine Xg.ops_op (by kernel_rfl) (Xg.opx_pure ((iv a)) rfl (fun _ => by kernel_rfl) ?_)
        refine Xg.ops_op (by kernel_rfl) (Xg.opx_pure (.bool (decide ((a : Int) ≥ ((0 : Int))))) rfl (fun _ => by kernel_rfl) ?_)
        refine Xg.ops_op (by kernel_rfl) (Xg.opx_pure ((Value.bool (decide (a ≥ (0 : Int))))) rfl (fun _ => by kernel_rfl) ?_)
        refine Xg.ops_flag (j := 9) (c := (decide (a ≥ (0 : Int)))) (by kernel_rfl) (fun xh1 => absurd (of_decide_eq_true xh1) (by omega)) (fun _ => ?_)
        refine Xg.ops_skip (by kernel_rfl) ?_
        refine Xg.ops_skip (by kernel_rfl) ?_
        refine Xg.ops_op (by kernel_rfl) (Xg.opx_pure ((Value.bool false)) rfl (fun _ => by kernel_rfl) ?_)
        refine Xg.ops_op (by kernel_rfl) (Xg.opx_pure ((Value.bool false)) rfl (fun _ => by kernel_rfl) ?_)
        refine Xg.ops_nil ?_
        refine Xg.at_false (t := false) (by kernel_rfl) rfl ?_
        refine Xg.at_seq ?_
        refine Xg.at_region ?_
        refine Xg.ops_op (by kernel_rfl) (Xg.opx_pure ((iv a)) rfl (fun _ => by kernel_rfl) ?_)
        refine Xg.ops_op (by kernel_rfl) (Xg.opx_pure (.bool (decide ((a : Int) ≥ ((16384 : Int))))) rfl (fun _ => by kernel_rfl) ?_)
        refine Xg.ops_op (by kernel_rfl) (Xg.opx_pure ((Value.bool (decide (a ≥ (16384 : Int))))) rfl (fun _ => by kernel_rfl) ?_)
        refine Xg.ops_flag (j := 24) (c := (decide (a ≥ (16384 : Int)))) (by kernel_rfl) (fun xh1 => absurd (of_decide_eq_true xh1) (by omega)) (fun _ => ?_)
        refine Xg.ops_skip (by kernel_rfl) ?_
        refine Xg.ops_skip (by kernel_rfl) ?_
        refine Xg.ops_op (by kernel_rfl) (Xg.opx_pure ((Value.bool false)) rfl (fun _ => by kernel_rfl) ?_)
        refine Xg.ops_op (by kernel_rfl) (Xg.opx_pure ((Value.bool false)) rfl (fun _ => by kernel_rfl) ?_)
        refine Xg.ops_nil ?_
        refine Xg.at_false (t := false) (by kernel_rfl) rfl ?_
        refine Xg.at_skip ?_
        refine Xg.at_inBlock ?_
        refine Xg.at_seq ?_
        refine Xg.at_region ?_
        refine Xg.ops_op (by kernel_rfl) (Xg.opx_pure ((pv p 0)) rfl (fun _ => by kernel_rfl) ?_)
        refine Xg.ops_op (by kernel_rfl) (Xg.opx_pure ((iv a)) rfl (fun _ => by kernel_rfl) ?_)
        refine Xg.ops_op (by kernel_rfl) (Xg.opx_call1' [0, 1, 2, 3] [CR p h ra rn rc ma mn mc (V1 mb), bts ra rn rc R, bts ma mn mc M, MR1 mb r] (fun _ => by kernel_rfl) (@hce ) (by kernel_rfl) (by kernel_rfl) (by kernel_rfl) ?_)
        refine Xg.ops_op (by kernel_rfl) (Xg.opx_pure ((iv ci)) rfl (fun _ => by kernel_rfl) ?_)
        refine Xg.ops_nil ?_
        refine Xg.at_seq ?_
        refine Xg.at_block ?_
        refine Xg.at_seq ?_
        refine Xg.at_region ?_
        refine Xg.ops_op (by kernel_rfl) (Xg.opx_pure ((iv ci)) rfl (fun _ => by kernel_rfl) ?_)
        refine Xg.ops_op (by kernel_rfl) (Xg.opx_pure (.bool (decide ((ci : Int) < ((0 : Int))))) rfl (fun _ => by kernel_rfl) ?_)
        refine Xg.ops_op (by kernel_rfl) (Xg.opx_pure ((Value.bool (decide (ci < (0 : Int))))) rfl (fun _ => by kernel_rfl) ?_)
        refine Xg.ops_nil ?_
        refine Xg.at_true (t := decide ((ci < (0 : Int)))) (by kernel_rfl) (decide_eq_true (by omega)) ?_
        refine Xg.at_seq ?_
        refine Xg.at_region ?_
        refine Xg.ops_op (by kernel_rfl) (Xg.opx_pure ((uv 255)) rfl (fun _ => by kernel_rfl) ?_)
        refine Xg.ops_nil ?_
        refine Xg.at_ret_ps (v := (uv 255)) [0, 1, 2, 3] [CR p h ra rn rc ma mn mc (V1 mb), bts ra rn rc R, bts ma mn mc M, MR1 mb r] Go.Proofs.Tryd.func12 (fun _ => by kernel_rfl) (by kernel_rfl) (by kernel_rfl) ?_
        exact ⟨by kernel_rfl, by kernel_rfl⟩)
    · (focus
        refine Xg.spec_of Go.Proofs.Tryd.func12 rfl Go.Proofs.Tryd.ntmps12 fun g F => ?_)
      (focus
        refine Xg.at_seq ?_
        refine Xg.at_region ?_
        refine Xg.ops_op (by kernel_rfl) (Xg.opx_pure ((uv 0)) rfl (fun _ => by kernel_rfl) ?_)
        refine Xg.ops_nil ?_
        refine Xg.at_seq ?_
        refine Xg.at_block ?_
        refine Xg.at_seq ?_
        refine Xg.at_region ?_
        refine Xg.ops_op (by kernel_rfl) (Xg.opx_pure ((iv a)) rfl (fun _ => by kernel_rfl) ?_)
        refine Xg.ops_op (by kernel_rfl) (Xg.opx_pure (.bool (decide ((a : Int) ≥ ((0 : Int))))) rfl (fun _ => by kernel_rfl) ?_)
        refine Xg.ops_op (by kernel_rfl) (Xg.opx_pure ((Value.bool (decide (a ≥ (0 : Int))))) rfl (fun _ => by kernel_rfl) ?_)
        refine Xg.ops_flag (j := 9) (c := (decide (a ≥ (0 : Int)))) (by kernel_rfl) (fun _ => ?_) (fun xh1 => absurd (of_decide_eq_false xh1) (by omega))
        refine Xg.ops_op (by kernel_rfl) (Xg.opx_pure ((iv a)) rfl (fun _ => by kernel_rfl) ?_)
        refine Xg.ops_op (by kernel_rfl) (Xg.opx_pure (.bool (decide ((a : Int) < ((16384 : Int))))) rfl (fun _ => by kernel_rfl) ?_)
        refine Xg.ops_flag (j := 11) (c := (decide (a < (16384 : Int)))) (by kernel_rfl) (fun xh1 => absurd (of_decide_eq_true xh1) (by omega)) (fun _ => ?_)
        refine Xg.ops_op (by kernel_rfl) (Xg.opx_pure ((Value.bool false)) rfl (fun _ => by kernel_rfl) ?_)
        refine Xg.ops_op (by kernel_rfl) (Xg.opx_pure ((Value.bool false)) rfl (fun _ => by kernel_rfl) ?_)
        refine Xg.ops_nil ?_
        refine Xg.at_false (t := false) (by kernel_rfl) rfl ?_
        refine Xg.at_seq ?_
        refine Xg.at_region ?_
        refine Xg.ops_op (by kernel_rfl) (Xg.opx_pure ((iv a)) rfl (fun _ => by kernel_rfl) ?_)
        refine Xg.ops_op (by kernel_rfl) (Xg.opx_pure (.bool (decide ((a : Int) ≥ ((16384 : Int))))) rfl (fun _ => by kernel_rfl) ?_)
        refine Xg.ops_op (by kernel_rfl) (Xg.opx_pure ((Value.bool (decide (a ≥ (16384 : Int))))) rfl (fun _ => by kernel_rfl) ?_)
        refine Xg.ops_flag (j := 24) (c := (decide (a ≥ (16384 : Int)))) (by kernel_rfl) (fun _ => ?_) (fun xh1 => absurd (of_decide_eq_false xh1) (by omega))
        refine Xg.ops_op (by kernel_rfl) (Xg.opx_pure ((iv a)) rfl (fun _ => by kernel_rfl) ?_)
        refine Xg.ops_op (by kernel_rfl) (Xg.opx_pure (.bool (decide ((a : Int) < ((32768 : Int))))) rfl (fun _ => by kernel_rfl) ?_)
        refine Xg.ops_flag (j := 26) (c := (decide (a < (32768 : Int)))) (by kernel_rfl) (fun xh1 => absurd (of_decide_eq_true xh1) (by omega)) (fun _ => ?_)
        refine Xg.ops_op (by kernel_rfl) (Xg.opx_pure ((Value.bool false)) rfl (fun _ => by kernel_rfl) ?_)
        refine Xg.ops_op (by kernel_rfl) (Xg.opx_pure ((Value.bool false)) rfl (fun _ => by kernel_rfl) ?_)
        refine Xg.ops_nil ?_
        refine Xg.at_false (t := false) (by kernel_rfl) rfl ?_
        refine Xg.at_skip ?_
        refine Xg.at_inBlock ?_
        refine Xg.at_seq ?_
        refine Xg.at_region ?_
        refine Xg.ops_op (by kernel_rfl) (Xg.opx_pure ((pv p 0)) rfl (fun _ => by kernel_rfl) ?_)
        refine Xg.ops_op (by kernel_rfl) (Xg.opx_pure ((iv a)) rfl (fun _ => by kernel_rfl) ?_)
        refine Xg.ops_op (by kernel_rfl) (Xg.opx_call1' [0, 1, 2, 3] [CR p h ra rn rc ma mn mc (V1 mb), bts ra rn rc R, bts ma mn mc M, MR1 mb r] (fun _ => by kernel_rfl) (@hce ) (by kernel_rfl) (by kernel_rfl) (by kernel_rfl) ?_)
        refine Xg.ops_op (by kernel_rfl) (Xg.opx_pure ((iv ci)) rfl (fun _ => by kernel_rfl) ?_)
        refine Xg.ops_nil ?_
        refine Xg.at_seq ?_
        refine Xg.at_block ?_
        refine Xg.at_seq ?_
        refine Xg.at_region ?_
        refine Xg.ops_op (by kernel_rfl) (Xg.opx_pure ((iv ci)) rfl (fun _ => by kernel_rfl) ?_)
        refine Xg.ops_op (by kernel_rfl) (Xg.opx_pure (.bool (decide ((ci : Int) < ((0 : Int))))) rfl (fun _ => by kernel_rfl) ?_)
        refine Xg.ops_op (by kernel_rfl) (Xg.opx_pure ((Value.bool (decide (ci < (0 : Int))))) rfl (fun _ => by kernel_rfl) ?_)
        refine Xg.ops_nil ?_
        refine Xg.at_true (t := decide ((ci < (0 : Int)))) (by kernel_rfl) (decide_eq_true (by omega)) ?_
        refine Xg.at_seq ?_
        refine Xg.at_region ?_
        refine Xg.ops_op (by kernel_rfl) (Xg.opx_pure ((uv 255)) rfl (fun _ => by kernel_rfl) ?_)
        refine Xg.ops_nil ?_
        refine Xg.at_ret_ps (v := (uv 255)) [0, 1, 2, 3] [CR p h ra rn rc ma mn mc (V1 mb), bts ra rn rc R, bts ma mn mc M, MR1 mb r] Go.Proofs.Tryd.func12 (fun _ => by kernel_rfl) (by kernel_rfl) (by kernel_rfl) ?_
        exact ⟨by kernel_rfl, by kernel_rfl⟩)
  obtain ⟨h5, h6⟩ := hlt h3
  rw [if_neg h3]
  obtain ⟨cn, rfl⟩ : ∃ cn : Nat, ci = (cn : Int) := ⟨ci.toNat, by omega⟩
  rw [if_neg (by decide)]
  rw [Int.toNat_natCast]
  have hbb := isB_get hB (i := cn) (by omega)
  by_cases h4 : a < 0
  · (focus
      refine Xg.spec_of Go.Proofs.Tryd.func12 rfl Go.Proofs.Tryd.ntmps12 fun g F => ?_)
    (focus
      refine Xg.at_seq ?_
      refine Xg.at_region ?_
      refine Xg.ops_op (by kernel_rfl) (Xg.opx_pure ((uv 0)) rfl (fun _ => by kernel_rfl) ?_)
      refine Xg.ops_nil ?_
      refine Xg.at_seq ?_
      refine Xg.at_block ?_
      refine Xg.at_seq ?_
      refine Xg.at_region ?_
      refine Xg.ops_op (by kernel_rfl) (Xg.opx_pure ((iv a)) rfl (fun _ => by kernel_rfl) ?_)
      refine Xg.ops_op (by kernel_rfl) (Xg.opx_pure (.bool (decide ((a : Int) ≥ ((0 : Int))))) rfl (fun _ => by kernel_rfl) ?_)
      refine Xg.ops_op (by kernel_rfl) (Xg.opx_pure ((Value.bool (decide (a ≥ (0 : Int))))) rfl (fun _ => by kernel_rfl) ?_)
      refine Xg.ops_flag (j := 9) (c := (decide (a ≥ (0 : Int)))) (by kernel_rfl) (fun xh1 => absurd (of_decide_eq_true xh1) (by omega)) (fun _ => ?_)
      refine Xg.ops_skip (by kernel_rfl) ?_
      refine Xg.ops_skip (by kernel_rfl) ?_
      refine Xg.ops_op (by kernel_rfl) (Xg.opx_pure ((Value.bool false)) rfl (fun _ => by kernel_rfl) ?_)
      refine Xg.ops_op (by kernel_rfl) (Xg.opx_pure ((Value.bool false)) rfl (fun _ => by kernel_rfl) ?_)
      refine Xg.ops_nil ?_
      refine Xg.at_false (t := false) (by kernel_rfl) rfl ?_
      refine Xg.at_seq ?_
      refine Xg.at_region ?_
      refine Xg.ops_op (by kernel_rfl) (Xg.opx_pure ((iv a)) rfl (fun _ => by kernel_rfl) ?_)
      refine Xg.ops_op (by kernel_rfl) (Xg.opx_pure (.bool (decide ((a : Int) ≥ ((16384 : Int))))) rfl (fun _ => by kernel_rfl) ?_)
      refine Xg.ops_op (by kernel_rfl) (Xg.opx_pure ((Value.bool (decide (a ≥ (16384 : Int))))) rfl (fun _ => by kernel_rfl) ?_)
      refine Xg.ops_flag (j := 24) (c := (decide (a ≥ (16384 : Int)))) (by kernel_rfl) (fun xh1 => absurd (of_decide_eq_true xh1) (by omega)) (fun _ => ?_)
      refine Xg.ops_skip (by kernel_rfl) ?_
      refine Xg.ops_skip (by kernel_rfl) ?_
      refine Xg.ops_op (by kernel_rfl) (Xg.opx_pure ((Value.bool false)) rfl (fun _ => by kernel_rfl) ?_)
      refine Xg.ops_op (by kernel_rfl) (Xg.opx_pure ((Value.bool false)) rfl (fun _ => by kernel_rfl) ?_)
      refine Xg.ops_nil ?_
      refine Xg.at_false (t := false) (by kernel_rfl) rfl ?_
      refine Xg.at_skip ?_
      refine Xg.at_inBlock ?_
      refine Xg.at_seq ?_
      refine Xg.at_region ?_
      refine Xg.ops_op (by kernel_rfl) (Xg.opx_pure ((pv p 0)) rfl (fun _ => by kernel_rfl) ?_)
      refine Xg.ops_op (by kernel_rfl) (Xg.opx_pure ((iv a)) rfl (fun _ => by kernel_rfl) ?_)
      refine Xg.ops_op (by kernel_rfl) (Xg.opx_call1' [0, 1, 2, 3] [CR p h ra rn rc ma mn mc (V1 mb), bts ra rn rc R, bts ma mn mc M, MR1 mb r] (fun _ => by kernel_rfl) (@hce ) (by kernel_rfl) (by kernel_rfl) (by kernel_rfl) ?_)
      refine Xg.ops_op (by kernel_rfl) (Xg.opx_pure ((iv (↑cn : Int))) rfl (fun _ => by kernel_rfl) ?_)
      refine Xg.ops_nil ?_
      refine Xg.at_seq ?_
      refine Xg.at_block ?_
      refine Xg.at_seq ?_
      refine Xg.at_region ?_
      refine Xg.ops_op (by kernel_rfl) (Xg.opx_pure ((iv (↑cn : Int))) rfl (fun _ => by kernel_rfl) ?_)
      refine Xg.ops_op (by kernel_rfl) (Xg.opx_pure (.bool (decide ((((↑cn : Int)) : Int) < ((0 : Int))))) rfl (fun _ => by kernel_rfl) ?_)
      refine Xg.ops_op (by kernel_rfl) (Xg.opx_pure ((Value.bool (decide ((↑cn : Int) < (0 : Int))))) rfl (fun _ => by kernel_rfl) ?_)
      refine Xg.ops_nil ?_
      refine Xg.at_false (t := false) (by kernel_rfl) rfl ?_
      refine Xg.at_seq ?_
      refine Xg.at_region ?_
      refine Xg.ops_op (by kernel_rfl) (Xg.opx_pure ((pv p 0)) rfl (fun _ => by kernel_rfl) ?_)
      refine Xg.ops_op (by kernel_rfl) (Xg.opx_pure ((pv p 0)) rfl (fun _ => by kernel_rfl) ?_)
      refine Xg.ops_op (by kernel_rfl) (Xg.opx_pure ((pv p 0)) rfl (fun _ => by kernel_rfl) ?_)
      refine Xg.ops_op (by kernel_rfl) (Xg.opx_pure ((pv p 2)) rfl (fun _ => by kernel_rfl) ?_)
      refine Xg.ops_op (by kernel_rfl) (Xg.opx_load (b := p) (off := ((2 : Nat))) 0 (iv h.mp) rfl (by kernel_rfl) (by kernel_rfl) (by kernel_rfl) ?_)
      refine Xg.ops_op (by kernel_rfl) (Xg.opx_pure (.bool (decide ((h.mp : Int) = ((2 : Int))))) rfl (fun _ => by kernel_rfl) ?_)
      refine Xg.ops_op (by kernel_rfl) (Xg.opx_pure ((Value.bool (decide (h.mp = (2 : Int))))) rfl (fun _ => by kernel_rfl) ?_)
      refine Xg.ops_nil ?_
      refine Xg.at_false (t := decide ((h.mp = (2 : Int)))) (by kernel_rfl) (decide_eq_false (by omega)) ?_
      refine Xg.at_skip ?_
      refine Xg.at_inBlock ?_
      refine Xg.at_seq ?_
      refine Xg.at_region ?_
      refine Xg.ops_op (by kernel_rfl) (Xg.opx_pure ((pv p 0)) rfl (fun _ => by kernel_rfl) ?_)
      refine Xg.ops_op (by kernel_rfl) (Xg.opx_pure ((pv p 0)) rfl (fun _ => by kernel_rfl) ?_)
      refine Xg.ops_op (by kernel_rfl) (Xg.opx_pure ((pv p 7)) rfl (fun _ => by kernel_rfl) ?_)
      refine Xg.ops_op (by kernel_rfl) (Xg.opx_load (b := p) (off := ((7 : Nat))) 0 (Value.slice ma mn mc) rfl (by kernel_rfl) (by kernel_rfl) (by kernel_rfl) ?_)
      refine Xg.ops_op (by kernel_rfl) (Xg.opx_pure ((iv (↑cn : Int))) rfl (fun _ => by kernel_rfl) ?_)
      refine Xg.ops_op (by kernel_rfl) (Xg.opx_ix_own (elem := 5) (kd := .i64) (e := ((↑cn : Int))) 2 1 cn cn rfl (by kernel_rfl) (by kernel_rfl) (by kernel_rfl) (by kernel_rfl) rfl (by omega) (by omega) ?_)
      refine Xg.ops_op (by kernel_rfl) (Xg.opx_load_own (a := ma) (off := cn) 2 (uv (M.getD cn (0 : Int))) rfl (by kernel_rfl) (Xg.get_ints (by omega)) (by kernel_rfl) ?_)
      refine Xg.ops_op (by kernel_rfl) (Xg.opx_pure ((uv (M.getD cn (0 : Int)))) rfl (fun _ => by kernel_rfl) ?_)
      refine Xg.ops_nil ?_
      refine Xg.at_ret_ps (v := (uv (M.getD cn (0 : Int)))) [0, 1, 2, 3] [CR p h ra rn rc ma mn mc (V1 mb), bts ra rn rc R, bts ma mn mc M, MR1 mb r] Go.Proofs.Tryd.func12 (fun _ => by kernel_rfl) (by kernel_rfl) (by kernel_rfl) ?_
      exact ⟨by kernel_rfl, by kernel_rfl⟩)
  · (focus
      refine Xg.spec_of Go.Proofs.Tryd.func12 rfl Go.Proofs.Tryd.ntmps12 fun g F => ?_)
    (focus
      refine Xg.at_seq ?_
      refine Xg.at_region ?_
      refine Xg.ops_op (by kernel_rfl) (Xg.opx_pure ((uv 0)) rfl (fun _ => by kernel_rfl) ?_)
      refine Xg.ops_nil ?_
      refine Xg.at_seq ?_
      refine Xg.at_block ?_
      refine Xg.at_seq ?_
      refine Xg.at_region ?_
      refine Xg.ops_op (by kernel_rfl) (Xg.opx_pure ((iv a)) rfl (fun _ => by kernel_rfl) ?_)
      refine Xg.ops_op (by kernel_rfl) (Xg.opx_pure (.bool (decide ((a : Int) ≥ ((0 : Int))))) rfl (fun _ => by kernel_rfl) ?_)
      refine Xg.ops_op (by kernel_rfl) (Xg.opx_pure ((Value.bool (decide (a ≥ (0 : Int))))) rfl (fun _ => by kernel_rfl) ?_)
      refine Xg.ops_flag (j := 9) (c := (decide (a ≥ (0 : Int)))) (by kernel_rfl) (fun _ => ?_) (fun xh1 => absurd (of_decide_eq_false xh1) (by omega))
      refine Xg.ops_op (by kernel_rfl) (Xg.opx_pure ((iv a)) rfl (fun _ => by kernel_rfl) ?_)
      refine Xg.ops_op (by kernel_rfl) (Xg.opx_pure (.bool (decide ((a : Int) < ((16384 : Int))))) rfl (fun _ => by kernel_rfl) ?_)
      refine Xg.ops_flag (j := 11) (c := (decide (a < (16384 : Int)))) (by kernel_rfl) (fun xh1 => absurd (of_decide_eq_true xh1) (by omega)) (fun _ => ?_)
      refine Xg.ops_op (by kernel_rfl) (Xg.opx_pure ((Value.bool false)) rfl (fun _ => by kernel_rfl) ?_)
      refine Xg.ops_op (by kernel_rfl) (Xg.opx_pure ((Value.bool false)) rfl (fun _ => by kernel_rfl) ?_)
      refine Xg.ops_nil ?_
      refine Xg.at_false (t := false) (by kernel_rfl) rfl ?_
      refine Xg.at_seq ?_
      refine Xg.at_region ?_
      refine Xg.ops_op (by kernel_rfl) (Xg.opx_pure ((iv a)) rfl (fun _ => by kernel_rfl) ?_)
      refine Xg.ops_op (by kernel_rfl) (Xg.opx_pure (.bool (decide ((a : Int) ≥ ((16384 : Int))))) rfl (fun _ => by kernel_rfl) ?_)
      refine Xg.ops_op (by kernel_rfl) (Xg.opx_pure ((Value.bool (decide (a ≥ (16384 : Int))))) rfl (fun _ => by kernel_rfl) ?_)
      refine Xg.ops_flag (j := 24) (c := (decide (a ≥ (16384 : Int)))) (by kernel_rfl) (fun _ => ?_) (fun xh1 => absurd (of_decide_eq_false xh1) (by omega))
      refine Xg.ops_op (by kernel_rfl) (Xg.opx_pure ((iv a)) rfl (fun _ => by kernel_rfl) ?_)
      refine Xg.ops_op (by kernel_rfl) (Xg.opx_pure (.bool (decide ((a : Int) < ((32768 : Int))))) rfl (fun _ => by kernel_rfl) ?_)
      refine Xg.ops_flag (j := 26) (c := (decide (a < (32768 : Int)))) (by kernel_rfl) (fun xh1 => absurd (of_decide_eq_true xh1) (by omega)) (fun _ => ?_)
      refine Xg.ops_op (by kernel_rfl) (Xg.opx_pure ((Value.bool false)) rfl (fun _ => by kernel_rfl) ?_)
      refine Xg.ops_op (by kernel_rfl) (Xg.opx_pure ((Value.bool false)) rfl (fun _ => by kernel_rfl) ?_)
      refine Xg.ops_nil ?_
      refine Xg.at_false (t := false) (by kernel_rfl) rfl ?_
      refine Xg.at_skip ?_
      refine Xg.at_inBlock ?_
      refine Xg.at_seq ?_
      refine Xg.at_region ?_
      refine Xg.ops_op (by kernel_rfl) (Xg.opx_pure ((pv p 0)) rfl (fun _ => by kernel_rfl) ?_)
      refine Xg.ops_op (by kernel_rfl) (Xg.opx_pure ((iv a)) rfl (fun _ => by kernel_rfl) ?_)
      refine Xg.ops_op (by kernel_rfl) (Xg.opx_call1' [0, 1, 2, 3] [CR p h ra rn rc ma mn mc (V1 mb), bts ra rn rc R, bts ma mn mc M, MR1 mb r] (fun _ => by kernel_rfl) (@hce ) (by kernel_rfl) (by kernel_rfl) (by kernel_rfl) ?_)
      refine Xg.ops_op (by kernel_rfl) (Xg.opx_pure ((iv (↑cn : Int))) rfl (fun _ => by kernel_rfl) ?_)
      refine Xg.ops_nil ?_
      refine Xg.at_seq ?_
      refine Xg.at_block ?_
      refine Xg.at_seq ?_
      refine Xg.at_region ?_
      refine Xg.ops_op (by kernel_rfl) (Xg.opx_pure ((iv (↑cn : Int))) rfl (fun _ => by kernel_rfl) ?_)
      refine Xg.ops_op (by kernel_rfl) (Xg.opx_pure (.bool (decide ((((↑cn : Int)) : Int) < ((0 : Int))))) rfl (fun _ => by kernel_rfl) ?_)
      refine Xg.ops_op (by kernel_rfl) (Xg.opx_pure ((Value.bool (decide ((↑cn : Int) < (0 : Int))))) rfl (fun _ => by kernel_rfl) ?_)
      refine Xg.ops_nil ?_
      refine Xg.at_false (t := false) (by kernel_rfl) rfl ?_
      refine Xg.at_seq ?_
      refine Xg.at_region ?_
      refine Xg.ops_op (by kernel_rfl) (Xg.opx_pure ((pv p 0)) rfl (fun _ => by kernel_rfl) ?_)
      refine Xg.ops_op (by kernel_rfl) (Xg.opx_pure ((pv p 0)) rfl (fun _ => by kernel_rfl) ?_)
      refine Xg.ops_op (by kernel_rfl) (Xg.opx_pure ((pv p 0)) rfl (fun _ => by kernel_rfl) ?_)
      refine Xg.ops_op (by kernel_rfl) (Xg.opx_pure ((pv p 2)) rfl (fun _ => by kernel_rfl) ?_)
      refine Xg.ops_op (by kernel_rfl) (Xg.opx_load (b := p) (off := ((2 : Nat))) 0 (iv h.mp) rfl (by kernel_rfl) (by kernel_rfl) (by kernel_rfl) ?_)
      refine Xg.ops_op (by kernel_rfl) (Xg.opx_pure (.bool (decide ((h.mp : Int) = ((2 : Int))))) rfl (fun _ => by kernel_rfl) ?_)
      refine Xg.ops_op (by kernel_rfl) (Xg.opx_pure ((Value.bool (decide (h.mp = (2 : Int))))) rfl (fun _ => by kernel_rfl) ?_)
      refine Xg.ops_nil ?_
      refine Xg.at_false (t := decide ((h.mp = (2 : Int)))) (by kernel_rfl) (decide_eq_false (by omega)) ?_
      refine Xg.at_skip ?_
      refine Xg.at_inBlock ?_
      refine Xg.at_seq ?_
      refine Xg.at_region ?_
      refine Xg.ops_op (by kernel_rfl) (Xg.opx_pure ((pv p 0)) rfl (fun _ => by kernel_rfl) ?_)
      refine Xg.ops_op (by kernel_rfl) (Xg.opx_pure ((pv p 0)) rfl (fun _ => by kernel_rfl) ?_)
      refine Xg.ops_op (by kernel_rfl) (Xg.opx_pure ((pv p 7)) rfl (fun _ => by kernel_rfl) ?_)
      refine Xg.ops_op (by kernel_rfl) (Xg.opx_load (b := p) (off := ((7 : Nat))) 0 (Value.slice ma mn mc) rfl (by kernel_rfl) (by kernel_rfl) (by kernel_rfl) ?_)
      refine Xg.ops_op (by kernel_rfl) (Xg.opx_pure ((iv (↑cn : Int))) rfl (fun _ => by kernel_rfl) ?_)
      refine Xg.ops_op (by kernel_rfl) (Xg.opx_ix_own (elem := 5) (kd := .i64) (e := ((↑cn : Int))) 2 1 cn cn rfl (by kernel_rfl) (by kernel_rfl) (by kernel_rfl) (by kernel_rfl) rfl (by omega) (by omega) ?_)
      refine Xg.ops_op (by kernel_rfl) (Xg.opx_load_own (a := ma) (off := cn) 2 (uv (M.getD cn (0 : Int))) rfl (by kernel_rfl) (Xg.get_ints (by omega)) (by kernel_rfl) ?_)
      refine Xg.ops_op (by kernel_rfl) (Xg.opx_pure ((uv (M.getD cn (0 : Int)))) rfl (fun _ => by kernel_rfl) ?_)
      refine Xg.ops_nil ?_
      refine Xg.at_ret_ps (v := (uv (M.getD cn (0 : Int)))) [0, 1, 2, 3] [CR p h ra rn rc ma mn mc (V1 mb), bts ra rn rc R, bts ma mn mc M, MR1 mb r] Go.Proofs.Tryd.func12 (fun _ => by kernel_rfl) (by kernel_rfl) (by kernel_rfl) ?_
      exact ⟨by kernel_rfl, by kernel_rfl⟩)
theorem writeR1_d (p mb : Nat) (h : Hd) (r : Rg) (ra : Option Addr) (rn rc : Nat) (ma : Option Addr) (mn mc : Nat) (R M : List Int) (a v : Int) (hwa : 0 ≤ a ∧ a < 32768) (hv : 0 ≤ v ∧ v ≤ 255) : Does Tryd.prog 13 [.pointer (some ⟨p, 0, none⟩), .int .i64 a, .int .u8 v] [CR p h ra rn rc ma mn mc (V1 mb), bts ra rn rc R, bts ma mn mc M, MR1 mb r] (Ret (.tuple #[]) [CR p h ra rn rc ma mn mc (V1 mb), bts ra rn rc R, bts ma mn mc M, MR1 mb (regW1 r a v)]) := by
  have hw := write1_d mb r a v hwa hv
  (focus
    refine Xg.spec_of Go.Proofs.Tryd.func13 rfl Go.Proofs.Tryd.ntmps13 fun g F => ?_)
  (focus
    refine Xg.at_seq ?_
    refine Xg.at_seq ?_
    refine Xg.at_region ?_
    refine Xg.ops_op (by kernel_rfl) (Xg.opx_pure ((iv a)) rfl (fun _ => by kernel_rfl) ?_)
    refine Xg.ops_op (by kernel_rfl) (Xg.opx_pure (.bool (decide ((a : Int) ≥ ((0 : Int))))) rfl (fun _ => by kernel_rfl) ?_)
    refine Xg.ops_op (by kernel_rfl) (Xg.opx_pure ((Value.bool (decide (a ≥ (0 : Int))))) rfl (fun _ => by kernel_rfl) ?_)
    refine Xg.ops_flag (j := 9) (c := (decide (a ≥ (0 : Int)))) (by kernel_rfl) (fun _ => ?_) (fun xh1 => absurd (of_decide_eq_false xh1) (by omega))
    refine Xg.ops_op (by kernel_rfl) (Xg.opx_pure ((iv a)) rfl (fun _ => by kernel_rfl) ?_)
    refine Xg.ops_op (by kernel_rfl) (Xg.opx_pure (.bool (decide ((a : Int) < ((32768 : Int))))) rfl (fun _ => by kernel_rfl) ?_)
    refine Xg.ops_flag (j := 11) (c := (decide (a < (32768 : Int)))) (by kernel_rfl) (fun _ => ?_) (fun xh1 => absurd (of_decide_eq_false xh1) (by omega))
    refine Xg.ops_op (by kernel_rfl) (Xg.opx_pure ((Value.bool true)) rfl (fun _ => by kernel_rfl) ?_)
    refine Xg.ops_nil ?_
    refine Xg.at_true (t := true) (by kernel_rfl) rfl ?_
    refine Xg.at_seq ?_
    refine Xg.at_region ?_
    refine Xg.ops_op (by kernel_rfl) (Xg.opx_pure ((pv p 0)) rfl (fun _ => by kernel_rfl) ?_)
    refine Xg.ops_op (by kernel_rfl) (Xg.opx_pure ((pv p 0)) rfl (fun _ => by kernel_rfl) ?_)
    refine Xg.ops_op (by kernel_rfl) (Xg.opx_pure ((pv p 8)) rfl (fun _ => by kernel_rfl) ?_)
    refine Xg.ops_op (by kernel_rfl) (Xg.opx_load (b := p) (off := ((8 : Nat))) 0 (Value.iface (72 : Nat) (pv mb 0)) rfl (by kernel_rfl) (by kernel_rfl) (by kernel_rfl) ?_)
    refine Xg.ops_op (by kernel_rfl) (Xg.opx_pure ((iv a)) rfl (fun _ => by kernel_rfl) ?_)
    refine Xg.ops_op (by kernel_rfl) (Xg.opx_pure ((uv v)) rfl (fun _ => by kernel_rfl) ?_)
    refine Xg.ops_op (by kernel_rfl) (Xg.opx_call1' [3] [MR1 mb (regW1 r a v), CR p h ra rn rc ma mn mc (V1 mb), bts ra rn rc R, bts ma mn mc M] (fun _ => by kernel_rfl) (@hw ) (by kernel_rfl) (by kernel_rfl) (by kernel_rfl) ?_)
    refine Xg.ops_nil ?_
    refine Xg.at_ret_ps (v := (tu)) [1, 2, 3, 0] [CR p h ra rn rc ma mn mc (V1 mb), bts ra rn rc R, bts ma mn mc M, MR1 mb (regW1 r a v)] Go.Proofs.Tryd.func13 (fun _ => by kernel_rfl) (by kernel_rfl) (by kernel_rfl) ?_
    exact ⟨by kernel_rfl, by kernel_rfl⟩)
theorem writeN1_d (p mb : Nat) (h : Hd) (r : Rg) (ra : Option Addr) (rn rc : Nat) (ma : Option Addr) (mn mc : Nat) (R M : List Int) (a v : Int) (ha : iok a) (hwa : a < 0 ∨ 32767 < a) (hv : 0 ≤ v ∧ v ≤ 255) (hr : r.Ok) (hbk : 2 ≤ h.bk ∧ h.bk ≤ 128) (hR : R.length = rn) (hrn : (rn : Int) = 16384 * h.bk) (hrc : rn ≤ rc) (hM : M.length = mn) (hmc : mn ≤ mc) (hB : isB M) (hmp : h.mp = 1) (hmo : ramOk 1 mn) (hc : cellI 1 r mn a < 0) : Does Tryd.prog 13 [.pointer (some ⟨p, 0, none⟩), .int .i64 a, .int .u8 v] [CR p h ra rn rc ma mn mc (V1 mb), bts ra rn rc R, bts ma mn mc M, MR1 mb r] (Ret (.tuple #[]) [CR p h ra rn rc ma mn mc (V1 mb), bts ra rn rc R, bts ma mn mc M, MR1 mb r]) := by
  have hce := cell1_d p mb h r ra rn rc ma mn mc R M a ha hr hbk hR hrn hrc hM hmc hB hmp hmo
  obtain ⟨ci, hci⟩ : ∃ ci, cellI 1 r mn a = ci := ⟨_, rfl⟩
  rw [hci] at hce hc
  by_cases h4 : a < 0
  · (focus
      refine Xg.spec_of Go.Proofs.Tryd.func13 rfl Go.Proofs.Tryd.ntmps13 fun g F => ?_)
    (focus
      refine Xg.at_seq ?_
      refine Xg.at_seq ?_
      refine Xg.at_region ?_
      refine Xg.ops_op (by kernel_rfl) (Xg.opx_pure ((iv a)) rfl (fun _ => by kernel_rfl) ?_)
      refine Xg.ops_op (by kernel_rfl) (Xg.opx_pure (.bool (decide ((a : Int) ≥ ((0 : Int))))) rfl (fun _ => by kernel_rfl) ?_)
      refine Xg.ops_op (by kernel_rfl) (Xg.opx_pure ((Value.bool (decide (a ≥ (0 : Int))))) rfl (fun _ => by kernel_rfl) ?_)
      refine Xg.ops_flag (j := 9) (c := (decide (a ≥ (0 : Int)))) (by kernel_rfl) (fun xh1 => absurd (of_decide_eq_true xh1) (by omega)) (fun _ => ?_)
      refine Xg.ops_skip (by kernel_rfl) ?_
      refine Xg.ops_skip (by kernel_rfl) ?_
      refine Xg.ops_op (by kernel_rfl) (Xg.opx_pure ((Value.bool false)) rfl (fun _ => by kernel_rfl) ?_)
      refine Xg.ops_nil ?_
      refine Xg.at_false (t := false) (by kernel_rfl) rfl ?_
      refine Xg.at_skip ?_
      refine Xg.at_seq ?_
      refine Xg.at_region ?_
      refine Xg.ops_op (by kernel_rfl) (Xg.opx_pure ((pv p 0)) rfl (fun _ => by kernel_rfl) ?_)
      refine Xg.ops_op (by kernel_rfl) (Xg.opx_pure ((iv a)) rfl (fun _ => by kernel_rfl) ?_)
      refine Xg.ops_op (by kernel_rfl) (Xg.opx_call1' [0, 1, 2, 3] [CR p h ra rn rc ma mn mc (V1 mb), bts ra rn rc R, bts ma mn mc M, MR1 mb r] (fun _ => by kernel_rfl) (@hce ) (by kernel_rfl) (by kernel_rfl) (by kernel_rfl) ?_)
      refine Xg.ops_op (by kernel_rfl) (Xg.opx_pure ((iv ci)) rfl (fun _ => by kernel_rfl) ?_)
      refine Xg.ops_nil ?_
      refine Xg.at_seq ?_
      refine Xg.at_seq ?_
      refine Xg.at_region ?_
      refine Xg.ops_op (by kernel_rfl) (Xg.opx_pure ((iv ci)) rfl (fun _ => by kernel_rfl) ?_)
      refine Xg.ops_op (by kernel_rfl) (Xg.opx_pure (.bool (decide ((ci : Int) < ((0 : Int))))) rfl (fun _ => by kernel_rfl) ?_)
      refine Xg.ops_nil ?_
      refine Xg.at_true (t := decide ((ci < (0 : Int)))) (by kernel_rfl) (decide_eq_true (by omega)) ?_
      refine Xg.at_ret_ps (v := (tu)) [0, 1, 2, 3] [CR p h ra rn rc ma mn mc (V1 mb), bts ra rn rc R, bts ma mn mc M, MR1 mb r] Go.Proofs.Tryd.func13 (fun _ => by kernel_rfl) (by kernel_rfl) (by kernel_rfl) ?_
      exact ⟨by kernel_rfl, by kernel_rfl⟩)
  · (focus
      refine Xg.spec_of Go.Proofs.Tryd.func13 rfl Go.Proofs.Tryd.ntmps13 fun g F => ?_)
    (focus
      refine Xg.at_seq ?_
      refine Xg.at_seq ?_
      refine Xg.at_region ?_
      refine Xg.ops_op (by kernel_rfl) (Xg.opx_pure ((iv a)) rfl (fun _ => by kernel_rfl) ?_)
      refine Xg.ops_op (by kernel_rfl) (Xg.opx_pure (.bool (decide ((a : Int) ≥ ((0 : Int))))) rfl (fun _ => by kernel_rfl) ?_)
      refine Xg.ops_op (by kernel_rfl) (Xg.opx_pure ((Value.bool (decide (a ≥ (0 : Int))))) rfl (fun _ => by kernel_rfl) ?_)
      refine Xg.ops_flag (j := 9) (c := (decide (a ≥ (0 : Int)))) (by kernel_rfl) (fun _ => ?_) (fun xh1 => absurd (of_decide_eq_false xh1) (by omega))
      refine Xg.ops_op (by kernel_rfl) (Xg.opx_pure ((iv a)) rfl (fun _ => by kernel_rfl) ?_)
      refine Xg.ops_op (by kernel_rfl) (Xg.opx_pure (.bool (decide ((a : Int) < ((32768 : Int))))) rfl (fun _ => by kernel_rfl) ?_)
      refine Xg.ops_flag (j := 11) (c := (decide (a < (32768 : Int)))) (by kernel_rfl) (fun xh1 => absurd (of_decide_eq_true xh1) (by omega)) (fun _ => ?_)
      refine Xg.ops_op (by kernel_rfl) (Xg.opx_pure ((Value.bool false)) rfl (fun _ => by kernel_rfl) ?_)
      refine Xg.ops_nil ?_
      refine Xg.at_false (t := false) (by kernel_rfl) rfl ?_
      refine Xg.at_skip ?_
      refine Xg.at_seq ?_
      refine Xg.at_region ?_
      refine Xg.ops_op (by kernel_rfl) (Xg.opx_pure ((pv p 0)) rfl (fun _ => by kernel_rfl) ?_)
      refine Xg.ops_op (by kernel_rfl) (Xg.opx_pure ((iv a)) rfl (fun _ => by kernel_rfl) ?_)
      refine Xg.ops_op (by kernel_rfl) (Xg.opx_call1' [0, 1, 2, 3] [CR p h ra rn rc ma mn mc (V1 mb), bts ra rn rc R, bts ma mn mc M, MR1 mb r] (fun _ => by kernel_rfl) (@hce ) (by kernel_rfl) (by kernel_rfl) (by kernel_rfl) ?_)
      refine Xg.ops_op (by kernel_rfl) (Xg.opx_pure ((iv ci)) rfl (fun _ => by kernel_rfl) ?_)
      refine Xg.ops_nil ?_
      refine Xg.at_seq ?_
      refine Xg.at_seq ?_
      refine Xg.at_region ?_
      refine Xg.ops_op (by kernel_rfl) (Xg.opx_pure ((iv ci)) rfl (fun _ => by kernel_rfl) ?_)
      refine Xg.ops_op (by kernel_rfl) (Xg.opx_pure (.bool (decide ((ci : Int) < ((0 : Int))))) rfl (fun _ => by kernel_rfl) ?_)
      refine Xg.ops_nil ?_
      refine Xg.at_true (t := decide ((ci < (0 : Int)))) (by kernel_rfl) (decide_eq_true (by omega)) ?_
      refine Xg.at_ret_ps (v := (tu)) [0, 1, 2, 3] [CR p h ra rn rc ma mn mc (V1 mb), bts ra rn rc R, bts ma mn mc M, MR1 mb r] Go.Proofs.Tryd.func13 (fun _ => by kernel_rfl) (by kernel_rfl) (by kernel_rfl) ?_
      exact ⟨by kernel_rfl, by kernel_rfl⟩)
theorem writeM1_d (p mb : Nat) (h : Hd) (r : Rg) (ra : Option Addr) (rn rc : Nat) (ma : Option Addr) (mn mc : Nat) (R M : List Int) (a v : Int) (ha : iok a) (hwa : a < 0 ∨ 32767 < a) (hv : 0 ≤ v ∧ v ≤ 255) (hr : r.Ok) (hbk : 2 ≤ h.bk ∧ h.bk ≤ 128) (hR : R.length = rn) (hrn : (rn : Int) = 16384 * h.bk) (hrc : rn ≤ rc) (hM : M.length = mn) (hmc : mn ≤ mc) (hB : isB M) (hmp : h.mp = 1) (hmo : ramOk 1 mn) (hc : ¬ cellI 1 r mn a < 0) : Does Tryd.prog 13 [.pointer (some ⟨p, 0, none⟩), .int .i64 a, .int .u8 v] [CR p h ra rn rc ma mn mc (V1 mb), bts ra rn rc R, bts ma mn mc M, MR1 mb r] (Ret (.tuple #[]) [CR p h ra rn rc ma mn mc (V1 mb), bts ra rn rc R, bts ma mn mc (M.set (cellI 1 r mn a).toNat v), MR1 mb r]) := by
  have hce := cell1_d p mb h r ra rn rc ma mn mc R M a ha hr hbk hR hrn hrc hM hmc hB hmp hmo
  have hlt := cell_lt 1 r mn a hr hmo hc
  obtain ⟨ci, hci⟩ : ∃ ci, cellI 1 r mn a = ci := ⟨_, rfl⟩
  rw [hci] at hce hc hlt ⊢
  obtain ⟨cn, rfl⟩ : ∃ cn : Nat, ci = (cn : Int) := ⟨ci.toNat, by omega⟩
  rw [Int.toNat_natCast]
  have hl9 : cn < M.length := by omega
  by_cases h4 : a < 0
  · (focus
      refine Xg.spec_of Go.Proofs.Tryd.func13 rfl Go.Proofs.Tryd.ntmps13 fun g F => ?_)
    (focus
      refine Xg.at_seq ?_
      refine Xg.at_seq ?_
      refine Xg.at_region ?_
      refine Xg.ops_op (by kernel_rfl) (Xg.opx_pure ((iv a)) rfl (fun _ => by kernel_rfl) ?_)
      refine Xg.ops_op (by kernel_rfl) (Xg.opx_pure (.bool (decide ((a : Int) ≥ ((0 : Int))))) rfl (fun _ => by kernel_rfl) ?_)
      refine Xg.ops_op (by kernel_rfl) (Xg.opx_pure ((Value.bool (decide (a ≥ (0 : Int))))) rfl (fun _ => by kernel_rfl) ?_)
      refine Xg.ops_flag (j := 9) (c := (decide (a ≥ (0 : Int)))) (by kernel_rfl) (fun xh1 => absurd (of_decide_eq_true xh1) (by omega)) (fun _ => ?_)
      refine Xg.ops_skip (by kernel_rfl) ?_
      refine Xg.ops_skip (by kernel_rfl) ?_
      refine Xg.ops_op (by kernel_rfl) (Xg.opx_pure ((Value.bool false)) rfl (fun _ => by kernel_rfl) ?_)
      refine Xg.ops_nil ?_
      refine Xg.at_false (t := false) (by kernel_rfl) rfl ?_
      refine Xg.at_skip ?_
      refine Xg.at_seq ?_
      refine Xg.at_region ?_
      refine Xg.ops_op (by kernel_rfl) (Xg.opx_pure ((pv p 0)) rfl (fun _ => by kernel_rfl) ?_)
      refine Xg.ops_op (by kernel_rfl) (Xg.opx_pure ((iv a)) rfl (fun _ => by kernel_rfl) ?_)
      refine Xg.ops_op (by kernel_rfl) (Xg.opx_call1' [0, 1, 2, 3] [CR p h ra rn rc ma mn mc (V1 mb), bts ra rn rc R, bts ma mn mc M, MR1 mb r] (fun _ => by kernel_rfl) (@hce ) (by kernel_rfl) (by kernel_rfl) (by kernel_rfl) ?_)
      refine Xg.ops_op (by kernel_rfl) (Xg.opx_pure ((iv (↑cn : Int))) rfl (fun _ => by kernel_rfl) ?_)
      refine Xg.ops_nil ?_
      refine Xg.at_seq ?_
      refine Xg.at_seq ?_
      refine Xg.at_region ?_
      refine Xg.ops_op (by kernel_rfl) (Xg.opx_pure ((iv (↑cn : Int))) rfl (fun _ => by kernel_rfl) ?_)
      refine Xg.ops_op (by kernel_rfl) (Xg.opx_pure (.bool (decide ((((↑cn : Int)) : Int) < ((0 : Int))))) rfl (fun _ => by kernel_rfl) ?_)
      refine Xg.ops_nil ?_
      refine Xg.at_false (t := false) (by kernel_rfl) rfl ?_
      refine Xg.at_skip ?_
      refine Xg.at_seq ?_
      refine Xg.at_seq ?_
      refine Xg.at_region ?_
      refine Xg.ops_op (by kernel_rfl) (Xg.opx_pure ((pv p 0)) rfl (fun _ => by kernel_rfl) ?_)
      refine Xg.ops_op (by kernel_rfl) (Xg.opx_pure ((pv p 0)) rfl (fun _ => by kernel_rfl) ?_)
      refine Xg.ops_op (by kernel_rfl) (Xg.opx_pure ((pv p 0)) rfl (fun _ => by kernel_rfl) ?_)
      refine Xg.ops_op (by kernel_rfl) (Xg.opx_pure ((pv p 2)) rfl (fun _ => by kernel_rfl) ?_)
      refine Xg.ops_op (by kernel_rfl) (Xg.opx_load (b := p) (off := ((2 : Nat))) 0 (iv h.mp) rfl (by kernel_rfl) (by kernel_rfl) (by kernel_rfl) ?_)
      refine Xg.ops_op (by kernel_rfl) (Xg.opx_pure (.bool (decide ((h.mp : Int) = ((2 : Int))))) rfl (fun _ => by kernel_rfl) ?_)
      refine Xg.ops_nil ?_
      refine Xg.at_false (t := decide ((h.mp = (2 : Int)))) (by kernel_rfl) (decide_eq_false (by omega)) ?_
      refine Xg.at_skip ?_
      refine Xg.at_region ?_
      refine Xg.ops_op (by kernel_rfl) (Xg.opx_pure ((pv p 0)) rfl (fun _ => by kernel_rfl) ?_)
      refine Xg.ops_op (by kernel_rfl) (Xg.opx_pure ((pv p 0)) rfl (fun _ => by kernel_rfl) ?_)
      refine Xg.ops_op (by kernel_rfl) (Xg.opx_pure ((pv p 7)) rfl (fun _ => by kernel_rfl) ?_)
      refine Xg.ops_op (by kernel_rfl) (Xg.opx_load (b := p) (off := ((7 : Nat))) 0 (Value.slice ma mn mc) rfl (by kernel_rfl) (by kernel_rfl) (by kernel_rfl) ?_)
      refine Xg.ops_op (by kernel_rfl) (Xg.opx_pure ((iv (↑cn : Int))) rfl (fun _ => by kernel_rfl) ?_)
      refine Xg.ops_op (by kernel_rfl) (Xg.opx_pure ((uv v)) rfl (fun _ => by kernel_rfl) ?_)
      refine Xg.ops_op (by kernel_rfl) (Xg.opx_ix_own (elem := 5) (kd := .i64) (e := ((↑cn : Int))) 2 1 cn cn rfl (by kernel_rfl) (by kernel_rfl) (by kernel_rfl) (by kernel_rfl) rfl (by omega) (by omega) ?_)
      refine Xg.ops_op (by kernel_rfl) (Xg.opx_store_own_i (a := ma) (off := cn) (kd := .u8) (xs := M) (e := v) 2 (by kernel_rfl) rfl (by kernel_rfl) (by kernel_rfl) (by first | omega | (simp only [List.length_set]; omega)) ?_)
      refine Xg.ops_nil ?_
      refine Xg.at_end_ps (v := (tu)) [0, 1, 2, 3] [CR p h ra rn rc ma mn mc (V1 mb), bts ra rn rc R, ownS (5 : TypeId) (1 : Nat) (Value.slice ma mn mc) mn (List.map (Value.int IntKind.u8) (M.set cn v)), MR1 mb r] Go.Proofs.Tryd.func13 (fun _ => by kernel_rfl) (by kernel_rfl) (by kernel_rfl) ?_
      exact ⟨by kernel_rfl, by kernel_rfl⟩)
  · (focus
      refine Xg.spec_of Go.Proofs.Tryd.func13 rfl Go.Proofs.Tryd.ntmps13 fun g F => ?_)
    (focus
      refine Xg.at_seq ?_
      refine Xg.at_seq ?_
      refine Xg.at_region ?_
      refine Xg.ops_op (by kernel_rfl) (Xg.opx_pure ((iv a)) rfl (fun _ => by kernel_rfl) ?_)
      refine Xg.ops_op (by kernel_rfl) (Xg.opx_pure (.bool (decide ((a : Int) ≥ ((0 : Int))))) rfl (fun _ => by kernel_rfl) ?_)
      refine Xg.ops_op (by kernel_rfl) (Xg.opx_pure ((Value.bool (decide (a ≥ (0 : Int))))) rfl (fun _ => by kernel_rfl) ?_)
      refine Xg.ops_flag (j := 9) (c := (decide (a ≥ (0 : Int)))) (by kernel_rfl) (fun _ => ?_) (fun xh1 => absurd (of_decide_eq_false xh1) (by omega))
      refine Xg.ops_op (by kernel_rfl) (Xg.opx_pure ((iv a)) rfl (fun _ => by kernel_rfl) ?_)
      refine Xg.ops_op (by kernel_rfl) (Xg.opx_pure (.bool (decide ((a : Int) < ((32768 : Int))))) rfl (fun _ => by kernel_rfl) ?_)
      refine Xg.ops_flag (j := 11) (c := (decide (a < (32768 : Int)))) (by kernel_rfl) (fun xh1 => absurd (of_decide_eq_true xh1) (by omega)) (fun _ => ?_)
      refine Xg.ops_op (by kernel_rfl) (Xg.opx_pure ((Value.bool false)) rfl (fun _ => by kernel_rfl) ?_)
      refine Xg.ops_nil ?_
      refine Xg.at_false (t := false) (by kernel_rfl) rfl ?_
      refine Xg.at_skip ?_
      refine Xg.at_seq ?_
      refine Xg.at_region ?_
      refine Xg.ops_op (by kernel_rfl) (Xg.opx_pure ((pv p 0)) rfl (fun _ => by kernel_rfl) ?_)
      refine Xg.ops_op (by kernel_rfl) (Xg.opx_pure ((iv a)) rfl (fun _ => by kernel_rfl) ?_)
      refine Xg.ops_op (by kernel_rfl) (Xg.opx_call1' [0, 1, 2, 3] [CR p h ra rn rc ma mn mc (V1 mb), bts ra rn rc R, bts ma mn mc M, MR1 mb r] (fun _ => by kernel_rfl) (@hce ) (by kernel_rfl) (by kernel_rfl) (by kernel_rfl) ?_)
      refine Xg.ops_op (by kernel_rfl) (Xg.opx_pure ((iv (↑cn : Int))) rfl (fun _ => by kernel_rfl) ?_)
      refine Xg.ops_nil ?_
      refine Xg.at_seq ?_
      refine Xg.at_seq ?_
      refine Xg.at_region ?_
      refine Xg.ops_op (by kernel_rfl) (Xg.opx_pure ((iv (↑cn : Int))) rfl (fun _ => by kernel_rfl) ?_)
      refine Xg.ops_op (by kernel_rfl) (Xg.opx_pure (.bool (decide ((((↑cn : Int)) : Int) < ((0 : Int))))) rfl (fun _ => by kernel_rfl) ?_)
      refine Xg.ops_nil ?_
      refine Xg.at_false (t := false) (by kernel_rfl) rfl ?_
      refine Xg.at_skip ?_
      refine Xg.at_seq ?_
      refine Xg.at_seq ?_
      refine Xg.at_region ?_
      refine Xg.ops_op (by kernel_rfl) (Xg.opx_pure ((pv p 0)) rfl (fun _ => by kernel_rfl) ?_)
      refine Xg.ops_op (by kernel_rfl) (Xg.opx_pure ((pv p 0)) rfl (fun _ => by kernel_rfl) ?_)
      refine Xg.ops_op (by kernel_rfl) (Xg.opx_pure ((pv p 0)) rfl (fun _ => by kernel_rfl) ?_)
      refine Xg.ops_op (by kernel_rfl) (Xg.opx_pure ((pv p 2)) rfl (fun _ => by kernel_rfl) ?_)
      refine Xg.ops_op (by kernel_rfl) (Xg.opx_load (b := p) (off := ((2 : Nat))) 0 (iv h.mp) rfl (by kernel_rfl) (by kernel_rfl) (by kernel_rfl) ?_)
      refine Xg.ops_op (by kernel_rfl) (Xg.opx_pure (.bool (decide ((h.mp : Int) = ((2 : Int))))) rfl (fun _ => by kernel_rfl) ?_)
      refine Xg.ops_nil ?_
      refine Xg.at_false (t := decide ((h.mp = (2 : Int)))) (by kernel_rfl) (decide_eq_false (by omega)) ?_
      refine Xg.at_skip ?_
      refine Xg.at_region ?_
      refine Xg.ops_op (by kernel_rfl) (Xg.opx_pure ((pv p 0)) rfl (fun _ => by kernel_rfl) ?_)
      refine Xg.ops_op (by kernel_rfl) (Xg.opx_pure ((pv p 0)) rfl (fun _ => by kernel_rfl) ?_)
      refine Xg.ops_op (by kernel_rfl) (Xg.opx_pure ((pv p 7)) rfl (fun _ => by kernel_rfl) ?_)
      refine Xg.ops_op (by kernel_rfl) (Xg.opx_load (b := p) (off := ((7 : Nat))) 0 (Value.slice ma mn mc) rfl (by kernel_rfl) (by kernel_rfl) (by kernel_rfl) ?_)
      refine Xg.ops_op (by kernel_rfl) (Xg.opx_pure ((iv (↑cn : Int))) rfl (fun _ => by kernel_rfl) ?_)
      refine Xg.ops_op (by kernel_rfl) (Xg.opx_pure ((uv v)) rfl (fun _ => by kernel_rfl) ?_)
      refine Xg.ops_op (by kernel_rfl) (Xg.opx_ix_own (elem := 5) (kd := .i64) (e := ((↑cn : Int))) 2 1 cn cn rfl (by kernel_rfl) (by kernel_rfl) (by kernel_rfl) (by kernel_rfl) rfl (by omega) (by omega) ?_)
      refine Xg.ops_op (by kernel_rfl) (Xg.opx_store_own_i (a := ma) (off := cn) (kd := .u8) (xs := M) (e := v) 2 (by kernel_rfl) rfl (by kernel_rfl) (by kernel_rfl) (by first | omega | (simp only [List.length_set]; omega)) ?_)
      refine Xg.ops_nil ?_
      refine Xg.at_end_ps (v := (tu)) [0, 1, 2, 3] [CR p h ra rn rc ma mn mc (V1 mb), bts ra rn rc R, ownS (5 : TypeId) (1 : Nat) (Value.slice ma mn mc) mn (List.map (Value.int IntKind.u8) (M.set cn v)), MR1 mb r] Go.Proofs.Tryd.func13 (fun _ => by kernel_rfl) (by kernel_rfl) (by kernel_rfl) ?_
      exact ⟨by kernel_rfl, by kernel_rfl⟩)
theorem read2_d (p mb : Nat) (h : Hd) (r : Rg) (ra : Option Addr) (rn rc : Nat) (ma : Option Addr) (mn mc : Nat) (R M : List Int) (a : Int) (ha : iok a) (hr : r.Ok) (hbk : 2 ≤ h.bk ∧ h.bk ≤ 128) (hR : R.length = rn) (hrn : (rn : Int) = 16384 * h.bk) (hrc : rn ≤ rc) (hM : M.length = mn) (hmc : mn ≤ mc) (hB : isB M) (hmp : h.mp = 2) (hmo : ramOk 2 mn) : Does Tryd.prog 12 [.pointer (some ⟨p, 0, none⟩), .int .i64 a] [CR p h ra rn rc ma mn mc (V2 mb), bts ra rn rc R, bts ma mn mc M, MR2 mb r] (Ret (.int .u8 (readI 2 r h.bk R M a)) [CR p h ra rn rc ma mn mc (V2 mb), bts ra rn rc R, bts ma mn mc M, MR2 mb r]) := by
  have hlo := low2_d mb r
  have hhi := high2_d mb r hr
  have hce := cell2_d p mb h r ra rn rc ma mn mc R M a ha hr hbk hR hrn hrc hM hmc hB hmp hmo
  obtain ⟨hb1, hb2, hb3, hb4⟩ := bank_ok 2 r hr
  have hlt := cell_lt 2 r mn a hr hmo
  unfold readI
  rw [hM]
  by_cases h1 : 0 ≤ a ∧ a < 16384
  · have hat := at_d p h ra rn rc ma mn mc (V2 mb) R (lowB 2 r) a ⟨hb1, hb2⟩ ⟨by omega, by omega⟩ ⟨by omega, by omega⟩ hR hrn hrc
    rw [if_pos h1]
    (focus
      refine Xg.spec_of Go.Proofs.Tryd.func12 rfl Go.Proofs.Tryd.ntmps12 fun g F => ?_)
    (focus
      refine Xg.at_seq ?_
      refine Xg.at_region ?_
      refine Xg.ops_op (by kernel_rfl) (Xg.opx_pure ((uv 0)) rfl (fun _ => by kernel_rfl) ?_)
      refine Xg.ops_nil ?_
      refine Xg.at_seq ?_
      refine Xg.at_block ?_
      refine Xg.at_seq ?_
      refine Xg.at_region ?_
      refine Xg.ops_op (by kernel_rfl) (Xg.opx_pure ((iv a)) rfl (fun _ => by kernel_rfl) ?_)
      refine Xg.ops_op (by kernel_rfl) (Xg.opx_pure (.bool (decide ((a : Int) ≥ ((0 : Int))))) rfl (fun _ => by kernel_rfl) ?_)
      refine Xg.ops_op (by kernel_rfl) (Xg.opx_pure ((Value.bool (decide (a ≥ (0 : Int))))) rfl (fun _ => by kernel_rfl) ?_)
      refine Xg.ops_flag (j := 9) (c := (decide (a ≥ (0 : Int)))) (by kernel_rfl) (fun _ => ?_) (fun xh1 => absurd (of_decide_eq_false xh1) (by omega))
      refine Xg.ops_op (by kernel_rfl) (Xg.opx_pure ((iv a)) rfl (fun _ => by kernel_rfl) ?_)
      refine Xg.ops_op (by kernel_rfl) (Xg.opx_pure (.bool (decide ((a : Int) < ((16384 : Int))))) rfl (fun _ => by kernel_rfl) ?_)
      refine Xg.ops_flag (j := 11) (c := (decide (a < (16384 : Int)))) (by kernel_rfl) (fun _ => ?_) (fun xh1 => absurd (of_decide_eq_false xh1) (by omega))
      refine Xg.ops_op (by kernel_rfl) (Xg.opx_pure ((Value.bool true)) rfl (fun _ => by kernel_rfl) ?_)
      refine Xg.ops_op (by kernel_rfl) (Xg.opx_pure ((Value.bool true)) rfl (fun _ => by kernel_rfl) ?_)
      refine Xg.ops_nil ?_
      refine Xg.at_true (t := true) (by kernel_rfl) rfl ?_
      refine Xg.at_seq ?_
      refine Xg.at_region ?_
      refine Xg.ops_op (by kernel_rfl) (Xg.opx_pure ((pv p 0)) rfl (fun _ => by kernel_rfl) ?_)
      refine Xg.ops_op (by kernel_rfl) (Xg.opx_pure ((pv p 0)) rfl (fun _ => by kernel_rfl) ?_)
      refine Xg.ops_op (by kernel_rfl) (Xg.opx_pure ((pv p 0)) rfl (fun _ => by kernel_rfl) ?_)
      refine Xg.ops_op (by kernel_rfl) (Xg.opx_pure ((pv p 8)) rfl (fun _ => by kernel_rfl) ?_)
      refine Xg.ops_op (by kernel_rfl) (Xg.opx_load (b := p) (off := ((8 : Nat))) 0 (Value.iface (75 : Nat) (pv mb 0)) rfl (by kernel_rfl) (by kernel_rfl) (by kernel_rfl) ?_)
      refine Xg.ops_op (by kernel_rfl) (Xg.opx_call1' [3] [MR2 mb r, CR p h ra rn rc ma mn mc (V2 mb), bts ra rn rc R, bts ma mn mc M] (fun _ => by kernel_rfl) (@hlo ) (by kernel_rfl) (by kernel_rfl) (by kernel_rfl) ?_)
      refine Xg.ops_op (by kernel_rfl) (Xg.opx_pure ((iv a)) rfl (fun _ => by kernel_rfl) ?_)
      refine Xg.ops_op (by kernel_rfl) (Xg.opx_call1' [1, 2] [CR p h ra rn rc ma mn mc (V2 mb), bts ra rn rc R, MR2 mb r, bts ma mn mc M] (fun _ => by kernel_rfl) (@hat ) (by kernel_rfl) (by kernel_rfl) (by kernel_rfl) ?_)
      refine Xg.ops_op (by kernel_rfl) (Xg.opx_pure ((uv (R.getD (lowB (2 : Nat) r % h.bk * (16384 : Int) + a % (16384 : Int)).toNat (0 : Int)))) rfl (fun _ => by kernel_rfl) ?_)
      refine Xg.ops_nil ?_
      refine Xg.at_ret_ps (v := (uv (R.getD (lowB (2 : Nat) r % h.bk * (16384 : Int) + a % (16384 : Int)).toNat (0 : Int)))) [0, 1, 3, 2] [CR p h ra rn rc ma mn mc (V2 mb), bts ra rn rc R, bts ma mn mc M, MR2 mb r] Go.Proofs.Tryd.func12 (fun _ => by kernel_rfl) (by kernel_rfl) (by kernel_rfl) ?_
      exact ⟨by kernel_rfl, by kernel_rfl⟩)
  rw [if_neg h1]
  by_cases h2 : 16384 ≤ a ∧ a < 32768
  · have hat := at_d p h ra rn rc ma mn mc (V2 mb) R (highB 2 r) a ⟨hb3, hb4⟩ ⟨by omega, by omega⟩ ⟨by omega, by omega⟩ hR hrn hrc
    rw [if_pos h2]
    (focus
      refine Xg.spec_of Go.Proofs.Tryd.func12 rfl Go.Proofs.Tryd.ntmps12 fun g F => ?_)
    (focus
      refine Xg.at_seq ?_
      refine Xg.at_region ?_
      refine Xg.ops_op (by kernel_rfl) (Xg.opx_pure ((uv 0)) rfl (fun _ => by kernel_rfl) ?_)
      refine Xg.ops_nil ?_
      refine Xg.at_seq ?_
      refine Xg.at_block ?_
      refine Xg.at_seq ?_
      refine Xg.at_region ?_
      refine Xg.ops_op (by kernel_rfl) (Xg.opx_pure ((iv a)) rfl (fun _ => by kernel_rfl) ?_)
      refine Xg.ops_op (by kernel_rfl) (Xg.opx_pure (.bool (decide ((a : Int) ≥ ((0 : Int))))) rfl (fun _ => by kernel_rfl) ?_)
      refine Xg.ops_op (by kernel_rfl) (Xg.opx_pure ((Value.bool (decide (a ≥ (0 : Int))))) rfl (fun _ => by kernel_rfl) ?_)
      refine Xg.ops_flag (j := 9) (c := (decide (a ≥ (0 : Int)))) (by kernel_rfl) (fun _ => ?_) (fun xh1 => absurd (of_decide_eq_false xh1) (by omega))
      refine Xg.ops_op (by kernel_rfl) (Xg.opx_pure ((iv a)) rfl (fun _ => by kernel_rfl) ?_)
      refine Xg.ops_op (by kernel_rfl) (Xg.opx_pure (.bool (decide ((a : Int) < ((16384 : Int))))) rfl (fun _ => by kernel_rfl) ?_)
      refine Xg.ops_flag (j := 11) (c := (decide (a < (16384 : Int)))) (by kernel_rfl) (fun xh1 => absurd (of_decide_eq_true xh1) (by omega)) (fun _ => ?_)
      refine Xg.ops_op (by kernel_rfl) (Xg.opx_pure ((Value.bool false)) rfl (fun _ => by kernel_rfl) ?_)
      refine Xg.ops_op (by kernel_rfl) (Xg.opx_pure ((Value.bool false)) rfl (fun _ => by kernel_rfl) ?_)
      refine Xg.ops_nil ?_
      refine Xg.at_false (t := false) (by kernel_rfl) rfl ?_
      refine Xg.at_seq ?_
      refine Xg.at_region ?_
      refine Xg.ops_op (by kernel_rfl) (Xg.opx_pure ((iv a)) rfl (fun _ => by kernel_rfl) ?_)
      refine Xg.ops_op (by kernel_rfl) (Xg.opx_pure (.bool (decide ((a : Int) ≥ ((16384 : Int))))) rfl (fun _ => by kernel_rfl) ?_)
      refine Xg.ops_op (by kernel_rfl) (Xg.opx_pure ((Value.bool (decide (a ≥ (16384 : Int))))) rfl (fun _ => by kernel_rfl) ?_)
      refine Xg.ops_flag (j := 24) (c := (decide (a ≥ (16384 : Int)))) (by kernel_rfl) (fun _ => ?_) (fun xh1 => absurd (of_decide_eq_false xh1) (by omega))
      refine Xg.ops_op (by kernel_rfl) (Xg.opx_pure ((iv a)) rfl (fun _ => by kernel_rfl) ?_)
      refine Xg.ops_op (by kernel_rfl) (Xg.opx_pure (.bool (decide ((a : Int) < ((32768 : Int))))) rfl (fun _ => by kernel_rfl) ?_)
      refine Xg.ops_flag (j := 26) (c := (decide (a < (32768 : Int)))) (by kernel_rfl) (fun _ => ?_) (fun xh1 => absurd (of_decide_eq_false xh1) (by omega))
      refine Xg.ops_op (by kernel_rfl) (Xg.opx_pure ((Value.bool true)) rfl (fun _ => by kernel_rfl) ?_)
      refine Xg.ops_op (by kernel_rfl) (Xg.opx_pure ((Value.bool true)) rfl (fun _ => by kernel_rfl) ?_)
      refine Xg.ops_nil ?_
      refine Xg.at_true (t := true) (by kernel_rfl) rfl ?_
      refine Xg.at_seq ?_
      refine Xg.at_region ?_
      refine Xg.ops_op (by kernel_rfl) (Xg.opx_pure ((pv p 0)) rfl (fun _ => by kernel_rfl) ?_)
      refine Xg.ops_op (by kernel_rfl) (Xg.opx_pure ((pv p 0)) rfl (fun _ => by kernel_rfl) ?_)
      refine Xg.ops_op (by kernel_rfl) (Xg.opx_pure ((pv p 0)) rfl (fun _ => by kernel_rfl) ?_)
      refine Xg.ops_op (by kernel_rfl) (Xg.opx_pure ((pv p 8)) rfl (fun _ => by kernel_rfl) ?_)
      refine Xg.ops_op (by kernel_rfl) (Xg.opx_load (b := p) (off := ((8 : Nat))) 0 (Value.iface (75 : Nat) (pv mb 0)) rfl (by kernel_rfl) (by kernel_rfl) (by kernel_rfl) ?_)
      refine Xg.ops_op (by kernel_rfl) (Xg.opx_call1' [3] [MR2 mb r, CR p h ra rn rc ma mn mc (V2 mb), bts ra rn rc R, bts ma mn mc M] (fun _ => by kernel_rfl) (@hhi ) (by kernel_rfl) (by kernel_rfl) (by kernel_rfl) ?_)
      refine Xg.ops_op (by kernel_rfl) (Xg.opx_pure ((iv a)) rfl (fun _ => by kernel_rfl) ?_)
      refine Xg.ops_op (by kernel_rfl) (Xg.opx_call1' [1, 2] [CR p h ra rn rc ma mn mc (V2 mb), bts ra rn rc R, MR2 mb r, bts ma mn mc M] (fun _ => by kernel_rfl) (@hat ) (by kernel_rfl) (by kernel_rfl) (by kernel_rfl) ?_)
      refine Xg.ops_op (by kernel_rfl) (Xg.opx_pure ((uv (R.getD (highB (2 : Nat) r % h.bk * (16384 : Int) + a % (16384 : Int)).toNat (0 : Int)))) rfl (fun _ => by kernel_rfl) ?_)
      refine Xg.ops_nil ?_
      refine Xg.at_ret_ps (v := (uv (R.getD (highB (2 : Nat) r % h.bk * (16384 : Int) + a % (16384 : Int)).toNat (0 : Int)))) [0, 1, 3, 2] [CR p h ra rn rc ma mn mc (V2 mb), bts ra rn rc R, bts ma mn mc M, MR2 mb r] Go.Proofs.Tryd.func12 (fun _ => by kernel_rfl) (by kernel_rfl) (by kernel_rfl) ?_
      exact ⟨by kernel_rfl, by kernel_rfl⟩)
  rw [if_neg h2]
  have h12 : a < 0 ∨ 32767 < a := by omega
  obtain ⟨ci, hci⟩ : ∃ ci, cellI 2 r mn a = ci := ⟨_, rfl⟩
  rw [hci] at hce hlt ⊢
  by_cases h3 : ci < 0
  · rw [if_pos h3]
    by_cases h4 : a < 0
    · (focus
        refine Xg.spec_of Go.Proofs.Tryd.func12 rfl Go.Proofs.Tryd.ntmps12 fun g F => ?_)
      (focus
        refine Xg.at_seq ?_
        refine Xg.at_region ?_
        refine Xg.ops_op (by kernel_rfl) (Xg.opx_pure ((uv 0)) rfl (fun _ => by kernel_rfl) ?_)
        refine Xg.ops_nil ?_
        refine Xg.at_seq ?_
        refine Xg.at_block ?_
        refine Xg.at_seq ?_
        refine Xg.at_region ?_
        refine Xg.ops_op (by kernel_rfl) (Xg.opx_pure ((iv a)) rfl (fun _ => by kernel_rfl) ?_)
        refine Xg.ops_op (by kernel_rfl) (Xg.opx_pure (.bool (decide ((a : Int) ≥ ((0 : Int))))) rfl (fun _ => by kernel_rfl) ?_)
        refine Xg.ops_op (by kernel_rfl) (Xg.opx_pure ((Value.bool (decide (a ≥ (0 : Int))))) rfl (fun _ => by kernel_rfl) ?_)
        refine Xg.ops_flag (j := 9) (c := (decide (a ≥ (0 : Int)))) (by kernel_rfl) (fun xh1 => absurd (of_decide_eq_true xh1) (by omega)) (fun _ => ?_)
        refine Xg.ops_skip (by kernel_rfl) ?_
        refine Xg.ops_skip (by kernel_rfl) ?_
        refine Xg.ops_op (by kernel_rfl) (Xg.opx_pure ((Value.bool false)) rfl (fun _ => by kernel_rfl) ?_)
        refine Xg.ops_op (by kernel_rfl) (Xg.opx_pure ((Value.bool false)) rfl (fun _ => by kernel_rfl) ?_)
        refine Xg.ops_nil ?_
        refine Xg.at_false (t := false) (by kernel_rfl) rfl ?_
        refine Xg.at_seq ?_
        refine Xg.at_region ?_
        refine Xg.ops_op (by kernel_rfl) (Xg.opx_pure ((iv a)) rfl (fun _ => by kernel_rfl) ?_)
        refine Xg.ops_op (by kernel_rfl) (Xg.opx_pure (.bool (decide ((a : Int) ≥ ((16384 : Int))))) rfl (fun _ => by kernel_rfl) ?_)
        refine Xg.ops_op (by kernel_rfl) (Xg.opx_pure ((Value.bool (decide (a ≥ (16384 : Int))))) rfl (fun _ => by kernel_rfl) ?_)
        refine Xg.ops_flag (j := 24) (c := (decide (a ≥ (16384 : Int)))) (by kernel_rfl) (fun xh1 => absurd (of_decide_eq_true xh1) (by omega)) (fun _ => ?_)
        refine Xg.ops_skip (by kernel_rfl) ?_
        refine Xg.ops_skip (by kernel_rfl) ?_
        refine Xg.ops_op (by kernel_rfl) (Xg.opx_pure ((Value.bool false)) rfl (fun _ => by kernel_rfl) ?_)
        refine Xg.ops_op (by kernel_rfl) (Xg.opx_pure ((Value.bool false)) rfl (fun _ => by kernel_rfl) ?_)
        refine Xg.ops_nil ?_
        refine Xg.at_false (t := false) (by kernel_rfl) rfl ?_
        refine Xg.at_skip ?_
        refine Xg.at_inBlock ?_
        refine Xg.at_seq ?_
        refine Xg.at_region ?_
        refine Xg.ops_op (by kernel_rfl) (Xg.opx_pure ((pv p 0)) rfl (fun _ => by kernel_rfl) ?_)
        refine Xg.ops_op (by kernel_rfl) (Xg.opx_pure ((iv a)) rfl (fun _ => by kernel_rfl) ?_)
        refine Xg.ops_op (by kernel_rfl) (Xg.opx_call1' [0, 1, 2, 3] [CR p h ra rn rc ma mn mc (V2 mb), bts ra rn rc R, bts ma mn mc M, MR2 mb r] (fun _ => by kernel_rfl) (@hce ) (by kernel_rfl) (by kernel_rfl) (by kernel_rfl) ?_)
        refine Xg.ops_op (by kernel_rfl) (Xg.opx_pure ((iv ci)) rfl (fun _ => by kernel_rfl) ?_)
        refine Xg.ops_nil ?_
        refine Xg.at_seq ?_
        refine Xg.at_block ?_
        refine Xg.at_seq ?_
        refine Xg.at_region ?_
        refine Xg.ops_op (by kernel_rfl) (Xg.opx_pure ((iv ci)) rfl (fun _ => by kernel_rfl) ?_)
        refine Xg.ops_op (by kernel_rfl) (Xg.opx_pure (.bool (decide ((ci : Int) < ((0 : Int))))) rfl (fun _ => by kernel_rfl) ?_)
        refine Xg.ops_op (by kernel_rfl) (Xg.opx_pure ((Value.bool (decide (ci < (0 : Int))))) rfl (fun _ => by kernel_rfl) ?_)
        refine Xg.ops_nil ?_
        refine Xg.at_true (t := decide ((ci < (0 : Int)))) (by kernel_rfl) (decide_eq_true (by omega)) ?_
        refine Xg.at_seq ?_
        refine Xg.at_region ?_
        refine Xg.ops_op (by kernel_rfl) (Xg.opx_pure ((uv 255)) rfl (fun _ => by kernel_rfl) ?_)
        refine Xg.ops_nil ?_
        refine Xg.at_ret_ps (v := (uv 255)) [0, 1, 2, 3] [CR p h ra rn rc ma mn mc (V2 mb), bts ra rn rc R, bts ma mn mc M, MR2 mb r] Go.Proofs.Tryd.func12 (fun _ => by kernel_rfl) (by kernel_rfl) (by kernel_rfl) ?_
        exact ⟨by kernel_rfl, by kernel_rfl⟩)
    · (focus
        refine Xg.spec_of Go.Proofs.Tryd.func12 rfl Go.Proofs.Tryd.ntmps12 fun g F => ?_)
      (focus
        refine Xg.at_seq ?_
        refine Xg.at_region ?_
        refine Xg.ops_op (by kernel_rfl) (Xg.opx_pure ((uv 0)) rfl (fun _ => by kernel_rfl) ?_)
        refine Xg.ops_nil ?_
        refine Xg.at_seq ?_
        refine Xg.at_block ?_
        refine Xg.at_seq ?_
        refine Xg.at_region ?_
        refine Xg.ops_op (by kernel_rfl) (Xg.opx_pure ((iv a)) rfl (fun _ => by kernel_rfl) ?_)
        refine Xg.ops_op (by kernel_rfl) (Xg.opx_pure (.bool (decide ((a : Int) ≥ ((0 : Int))))) rfl (fun _ => by kernel_rfl) ?_)
        refine Xg.ops_op (by kernel_rfl) (Xg.opx_pure ((Value.bool (decide (a ≥ (0 : Int))))) rfl (fun _ => by kernel_rfl) ?_)
        refine Xg.ops_flag (j := 9) (c := (decide (a ≥ (0 : Int)))) (by kernel_rfl) (fun _ => ?_) (fun xh1 => absurd (of_decide_eq_false xh1) (by omega))
        refine Xg.ops_op (by kernel_rfl) (Xg.opx_pure ((iv a)) rfl (fun _ => by kernel_rfl) ?_)
        refine Xg.ops_op (by kernel_rfl) (Xg.opx_pure (.bool (decide ((a : Int) < ((16384 : Int))))) rfl (fun _ => by kernel_rfl) ?_)
        refine Xg.ops_flag (j := 11) (c := (decide (a < (16384 : Int)))) (by kernel_rfl) (fun xh1 => absurd (of_decide_eq_true xh1) (by omega)) (fun _ => ?_)
        refine Xg.ops_op (by kernel_rfl) (Xg.opx_pure ((Value.bool false)) rfl (fun _ => by kernel_rfl) ?_)
        refine Xg.ops_op (by kernel_rfl) (Xg.opx_pure ((Value.bool false)) rfl (fun _ => by kernel_rfl) ?_)
        refine Xg.ops_nil ?_
        refine Xg.at_false (t := false) (by kernel_rfl) rfl ?_
        refine Xg.at_seq ?_
        refine Xg.at_region ?_
        refine Xg.ops_op (by kernel_rfl) (Xg.opx_pure ((iv a)) rfl (fun _ => by kernel_rfl) ?_)
        refine Xg.ops_op (by kernel_rfl) (Xg.opx_pure (.bool (decide ((a : Int) ≥ ((16384 : Int))))) rfl (fun _ => by kernel_rfl) ?_)
        refine Xg.ops_op (by kernel_rfl) (Xg.opx_pure ((Value.bool (decide (a ≥ (16384 : Int))))) rfl (fun _ => by kernel_rfl) ?_)
        refine Xg.ops_flag (j := 24) (c := (decide (a ≥ (16384 : Int)))) (by kernel_rfl) (fun _ => ?_) (fun xh1 => absurd (of_decide_eq_false xh1) (by omega))
        refine Xg.ops_op (by kernel_rfl) (Xg.opx_pure ((iv a)) rfl (fun _ => by kernel_rfl) ?_)
        refine Xg.ops_op (by kernel_rfl) (Xg.opx_pure (.bool (decide ((a : Int) < ((32768 : Int))))) rfl (fun _ => by kernel_rfl) ?_)
        refine Xg.ops_flag (j := 26) (c := (decide (a < (32768 : Int)))) (by kernel_rfl) (fun xh1 => absurd (of_decide_eq_true xh1) (by omega)) (fun _ => ?_)
        refine Xg.ops_op (by kernel_rfl) (Xg.opx_pure ((Value.bool false)) rfl (fun _ => by kernel_rfl) ?_)
        refine Xg.ops_op (by kernel_rfl) (Xg.opx_pure ((Value.bool false)) rfl (fun _ => by kernel_rfl) ?_)
        refine Xg.ops_nil ?_
        refine Xg.at_false (t := false) (by kernel_rfl) rfl ?_
        refine Xg.at_skip ?_
        refine Xg.at_inBlock ?_
        refine Xg.at_seq ?_
        refine Xg.at_region ?_
        refine Xg.ops_op (by kernel_rfl) (Xg.opx_pure ((pv p 0)) rfl (fun _ => by kernel_rfl) ?_)
        refine Xg.ops_op (by kernel_rfl) (Xg.opx_pure ((iv a)) rfl (fun _ => by kernel_rfl) ?_)
        refine Xg.ops_op (by kernel_rfl) (Xg.opx_call1' [0, 1, 2, 3] [CR p h ra rn rc ma mn mc (V2 mb), bts ra rn rc R, bts ma mn mc M, MR2 mb r] (fun _ => by kernel_rfl) (@hce ) (by kernel_rfl) (by kernel_rfl) (by kernel_rfl) ?_)
        refine Xg.ops_op (by kernel_rfl) (Xg.opx_pure ((iv ci)) rfl (fun _ => by kernel_rfl) ?_)
        refine Xg.ops_nil ?_
        refine Xg.at_seq ?_
        refine Xg.at_block ?_
        refine Xg.at_seq ?_
        refine Xg.at_region ?_
        refine Xg.ops_op (by kernel_rfl) (Xg.opx_pure ((iv ci)) rfl (fun _ => by kernel_rfl) ?_)
        refine Xg.ops_op (by kernel_rfl) (Xg.opx_pure (.bool (decide ((ci : Int) < ((0 : Int))))) rfl (fun _ => by kernel_rfl) ?_)
        refine Xg.ops_op (by kernel_rfl) (Xg.opx_pure ((Value.bool (decide (ci < (0 : Int))))) rfl (fun _ => by kernel_rfl) ?_)
        refine Xg.ops_nil ?_
        refine Xg.at_true (t := decide ((ci < (0 : Int)))) (by kernel_rfl) (decide_eq_true (by omega)) ?_
        refine Xg.at_seq ?_
        refine Xg.at_region ?_
        refine Xg.ops_op (by kernel_rfl) (Xg.opx_pure ((uv 255)) rfl (fun _ => by kernel_rfl) ?_)
        refine Xg.ops_nil ?_
        refine Xg.at_ret_ps (v := (uv 255)) [0, 1, 2, 3] [CR p h ra rn rc ma mn mc (V2 mb), bts ra rn rc R, bts ma mn mc M, MR2 mb r] Go.Proofs.Tryd.func12 (fun _ => by kernel_rfl) (by kernel_rfl) (by kernel_rfl) ?_
        exact ⟨by kernel_rfl, by kernel_rfl⟩)
  obtain ⟨h5, h6⟩ := hlt h3
  rw [if_neg h3]
  obtain ⟨cn, rfl⟩ : ∃ cn : Nat, ci = (cn : Int) := ⟨ci.toNat, by omega⟩
  rw [if_pos rfl]
  rw [Int.toNat_natCast]
  have hbb := isB_get hB (i := cn) (by omega)
  by_cases h4 : a < 0
  · (focus
      refine Xg.spec_of Go.Proofs.Tryd.func12 rfl Go.Proofs.Tryd.ntmps12 fun g F => ?_)
    (focus
      refine Xg.at_seq ?_
      refine Xg.at_region ?_
      refine Xg.ops_op (by kernel_rfl) (Xg.opx_pure ((uv 0)) rfl (fun _ => by kernel_rfl) ?_)
      refine Xg.ops_nil ?_
      refine Xg.at_seq ?_
      refine Xg.at_block ?_
      refine Xg.at_seq ?_
      refine Xg.at_region ?_
      refine Xg.ops_op (by kernel_rfl) (Xg.opx_pure ((iv a)) rfl (fun _ => by kernel_rfl) ?_)
      refine Xg.ops_op (by kernel_rfl) (Xg.opx_pure (.bool (decide ((a : Int) ≥ ((0 : Int))))) rfl (fun _ => by kernel_rfl) ?_)
      refine Xg.ops_op (by kernel_rfl) (Xg.opx_pure ((Value.bool (decide (a ≥ (0 : Int))))) rfl (fun _ => by kernel_rfl) ?_)
      refine Xg.ops_flag (j := 9) (c := (decide (a ≥ (0 : Int)))) (by kernel_rfl) (fun xh1 => absurd (of_decide_eq_true xh1) (by omega)) (fun _ => ?_)
      refine Xg.ops_skip (by kernel_rfl) ?_
      refine Xg.ops_skip (by kernel_rfl) ?_
      refine Xg.ops_op (by kernel_rfl) (Xg.opx_pure ((Value.bool false)) rfl (fun _ => by kernel_rfl) ?_)
      refine Xg.ops_op (by kernel_rfl) (Xg.opx_pure ((Value.bool false)) rfl (fun _ => by kernel_rfl) ?_)
      refine Xg.ops_nil ?_
      refine Xg.at_false (t := false) (by kernel_rfl) rfl ?_
      refine Xg.at_seq ?_
      refine Xg.at_region ?_
      refine Xg.ops_op (by kernel_rfl) (Xg.opx_pure ((iv a)) rfl (fun _ => by kernel_rfl) ?_)
      refine Xg.ops_op (by kernel_rfl) (Xg.opx_pure (.bool (decide ((a : Int) ≥ ((16384 : Int))))) rfl (fun _ => by kernel_rfl) ?_)
      refine Xg.ops_op (by kernel_rfl) (Xg.opx_pure ((Value.bool (decide (a ≥ (16384 : Int))))) rfl (fun _ => by kernel_rfl) ?_)
      refine Xg.ops_flag (j := 24) (c := (decide (a ≥ (16384 : Int)))) (by kernel_rfl) (fun xh1 => absurd (of_decide_eq_true xh1) (by omega)) (fun _ => ?_)
      refine Xg.ops_skip (by kernel_rfl) ?_
      refine Xg.ops_skip (by kernel_rfl) ?_
      refine Xg.ops_op (by kernel_rfl) (Xg.opx_pure ((Value.bool false)) rfl (fun _ => by kernel_rfl) ?_)
      refine Xg.ops_op (by kernel_rfl) (Xg.opx_pure ((Value.bool false)) rfl (fun _ => by kernel_rfl) ?_)
      refine Xg.ops_nil ?_
      refine Xg.at_false (t := false) (by kernel_rfl) rfl ?_
      refine Xg.at_skip ?_
      refine Xg.at_inBlock ?_
      refine Xg.at_seq ?_
      refine Xg.at_region ?_
      refine Xg.ops_op (by kernel_rfl) (Xg.opx_pure ((pv p 0)) rfl (fun _ => by kernel_rfl) ?_)
      refine Xg.ops_op (by kernel_rfl) (Xg.opx_pure ((iv a)) rfl (fun _ => by kernel_rfl) ?_)
      refine Xg.ops_op (by kernel_rfl) (Xg.opx_call1' [0, 1, 2, 3] [CR p h ra rn rc ma mn mc (V2 mb), bts ra rn rc R, bts ma mn mc M, MR2 mb r] (fun _ => by kernel_rfl) (@hce ) (by kernel_rfl) (by kernel_rfl) (by kernel_rfl) ?_)
      refine Xg.ops_op (by kernel_rfl) (Xg.opx_pure ((iv (↑cn : Int))) rfl (fun _ => by kernel_rfl) ?_)
      refine Xg.ops_nil ?_
      refine Xg.at_seq ?_
      refine Xg.at_block ?_
      refine Xg.at_seq ?_
      refine Xg.at_region ?_
      refine Xg.ops_op (by kernel_rfl) (Xg.opx_pure ((iv (↑cn : Int))) rfl (fun _ => by kernel_rfl) ?_)
      refine Xg.ops_op (by kernel_rfl) (Xg.opx_pure (.bool (decide ((((↑cn : Int)) : Int) < ((0 : Int))))) rfl (fun _ => by kernel_rfl) ?_)
      refine Xg.ops_op (by kernel_rfl) (Xg.opx_pure ((Value.bool (decide ((↑cn : Int) < (0 : Int))))) rfl (fun _ => by kernel_rfl) ?_)
      refine Xg.ops_nil ?_
      refine Xg.at_false (t := false) (by kernel_rfl) rfl ?_
      refine Xg.at_seq ?_
      refine Xg.at_region ?_
      refine Xg.ops_op (by kernel_rfl) (Xg.opx_pure ((pv p 0)) rfl (fun _ => by kernel_rfl) ?_)
      refine Xg.ops_op (by kernel_rfl) (Xg.opx_pure ((pv p 0)) rfl (fun _ => by kernel_rfl) ?_)
      refine Xg.ops_op (by kernel_rfl) (Xg.opx_pure ((pv p 0)) rfl (fun _ => by kernel_rfl) ?_)
      refine Xg.ops_op (by kernel_rfl) (Xg.opx_pure ((pv p 2)) rfl (fun _ => by kernel_rfl) ?_)
      refine Xg.ops_op (by kernel_rfl) (Xg.opx_load (b := p) (off := ((2 : Nat))) 0 (iv h.mp) rfl (by kernel_rfl) (by kernel_rfl) (by kernel_rfl) ?_)
      refine Xg.ops_op (by kernel_rfl) (Xg.opx_pure (.bool (decide ((h.mp : Int) = ((2 : Int))))) rfl (fun _ => by kernel_rfl) ?_)
      refine Xg.ops_op (by kernel_rfl) (Xg.opx_pure ((Value.bool (decide (h.mp = (2 : Int))))) rfl (fun _ => by kernel_rfl) ?_)
      refine Xg.ops_nil ?_
      refine Xg.at_true (t := decide ((h.mp = (2 : Int)))) (by kernel_rfl) (decide_eq_true (by omega)) ?_
      refine Xg.at_seq ?_
      refine Xg.at_region ?_
      refine Xg.ops_op (by kernel_rfl) (Xg.opx_pure ((pv p 0)) rfl (fun _ => by kernel_rfl) ?_)
      refine Xg.ops_op (by kernel_rfl) (Xg.opx_pure ((pv p 0)) rfl (fun _ => by kernel_rfl) ?_)
      refine Xg.ops_op (by kernel_rfl) (Xg.opx_pure ((pv p 7)) rfl (fun _ => by kernel_rfl) ?_)
      refine Xg.ops_op (by kernel_rfl) (Xg.opx_load (b := p) (off := ((7 : Nat))) 0 (Value.slice ma mn mc) rfl (by kernel_rfl) (by kernel_rfl) (by kernel_rfl) ?_)
      refine Xg.ops_op (by kernel_rfl) (Xg.opx_pure ((iv (↑cn : Int))) rfl (fun _ => by kernel_rfl) ?_)
      refine Xg.ops_op (by kernel_rfl) (Xg.opx_ix_own (elem := 5) (kd := .i64) (e := ((↑cn : Int))) 2 1 cn cn rfl (by kernel_rfl) (by kernel_rfl) (by kernel_rfl) (by kernel_rfl) rfl (by omega) (by omega) ?_)
      refine Xg.ops_op (by kernel_rfl) (Xg.opx_load_own (a := ma) (off := cn) 2 (uv (M.getD cn (0 : Int))) rfl (by kernel_rfl) (Xg.get_ints (by omega)) (by kernel_rfl) ?_)
      refine Xg.ops_op (by kernel_rfl) (Xg.opx_pure (.int .u8 (Xg.bor .u8 ((M.getD cn (0 : Int))) (((240 : Int))))) rfl (fun _ => by kernel_rfl) ?_)
      refine Xg.ops_op (by kernel_rfl) (Xg.opx_pure ((uv (bor IntKind.u8 (M.getD cn (0 : Int)) (240 : Int)))) rfl (fun _ => by kernel_rfl) ?_)
      refine Xg.ops_nil ?_
      refine Xg.at_ret_ps (v := (uv (bor IntKind.u8 (M.getD cn (0 : Int)) (240 : Int)))) [0, 1, 2, 3] [CR p h ra rn rc ma mn mc (V2 mb), bts ra rn rc R, bts ma mn mc M, MR2 mb r] Go.Proofs.Tryd.func12 (fun _ => by kernel_rfl) (by kernel_rfl) (by kernel_rfl) ?_
      exact ⟨by kernel_rfl, by kernel_rfl⟩)
  · (focus
      refine Xg.spec_of Go.Proofs.Tryd.func12 rfl Go.Proofs.Tryd.ntmps12 fun g F => ?_)
    (focus
      refine Xg.at_seq ?_
      refine Xg.at_region ?_
      refine Xg.ops_op (by kernel_rfl) (Xg.opx_pure ((uv 0)) rfl (fun _ => by kernel_rfl) ?_)
      refine Xg.ops_nil ?_
      refine Xg.at_seq ?_
      refine Xg.at_block ?_
      refine Xg.at_seq ?_
      refine Xg.at_region ?_
      refine Xg.ops_op (by kernel_rfl) (Xg.opx_pure ((iv a)) rfl (fun _ => by kernel_rfl) ?_)
      refine Xg.ops_op (by kernel_rfl) (Xg.opx_pure (.bool (decide ((a : Int) ≥ ((0 : Int))))) rfl (fun _ => by kernel_rfl) ?_)
      refine Xg.ops_op (by kernel_rfl) (Xg.opx_pure ((Value.bool (decide (a ≥ (0 : Int))))) rfl (fun _ => by kernel_rfl) ?_)
      refine Xg.ops_flag (j := 9) (c := (decide (a ≥ (0 : Int)))) (by kernel_rfl) (fun _ => ?_) (fun xh1 => absurd (of_decide_eq_false xh1) (by omega))
      refine Xg.ops_op (by kernel_rfl) (Xg.opx_pure ((iv a)) rfl (fun _ => by kernel_rfl) ?_)
      refine Xg.ops_op (by kernel_rfl) (Xg.opx_pure (.bool (decide ((a : Int) < ((16384 : Int))))) rfl (fun _ => by kernel_rfl) ?_)
      refine Xg.ops_flag (j := 11) (c := (decide (a < (16384 : Int)))) (by kernel_rfl) (fun xh1 => absurd (of_decide_eq_true xh1) (by omega)) (fun _ => ?_)
      refine Xg.ops_op (by kernel_rfl) (Xg.opx_pure ((Value.bool false)) rfl (fun _ => by kernel_rfl) ?_)
      refine Xg.ops_op (by kernel_rfl) (Xg.opx_pure ((Value.bool false)) rfl (fun _ => by kernel_rfl) ?_)
      refine Xg.ops_nil ?_
      refine Xg.at_false (t := false) (by kernel_rfl) rfl ?_
      refine Xg.at_seq ?_
      refine Xg.at_region ?_
      refine Xg.ops_op (by kernel_rfl) (Xg.opx_pure ((iv a)) rfl (fun _ => by kernel_rfl) ?_)
      refine Xg.ops_op (by kernel_rfl) (Xg.opx_pure (.bool (decide ((a : Int) ≥ ((16384 : Int))))) rfl (fun _ => by kernel_rfl) ?_)
      refine Xg.ops_op (by kernel_rfl) (Xg.opx_pure ((Value.bool (decide (a ≥ (16384 : Int))))) rfl (fun _ => by kernel_rfl) ?_)
      refine Xg.ops_flag (j := 24) (c := (decide (a ≥ (16384 : Int)))) (by kernel_rfl) (fun _ => ?_) (fun xh1 => absurd (of_decide_eq_false xh1) (by omega))
      refine Xg.ops_op (by kernel_rfl) (Xg.opx_pure ((iv a)) rfl (fun _ => by kernel_rfl) ?_)
      refine Xg.ops_op (by kernel_rfl) (Xg.opx_pure (.bool (decide ((a : Int) < ((32768 : Int))))) rfl (fun _ => by kernel_rfl) ?_)
      refine Xg.ops_flag (j := 26) (c := (decide (a < (32768 : Int)))) (by kernel_rfl) (fun xh1 => absurd (of_decide_eq_true xh1) (by omega)) (fun _ => ?_)
      refine Xg.ops_op (by kernel_rfl) (Xg.opx_pure ((Value.bool false)) rfl (fun _ => by kernel_rfl) ?_)
      refine Xg.ops_op (by kernel_rfl) (Xg.opx_pure ((Value.bool false)) rfl (fun _ => by kernel_rfl) ?_)
      refine Xg.ops_nil ?_
      refine Xg.at_false (t := false) (by kernel_rfl) rfl ?_
      refine Xg.at_skip ?_
      refine Xg.at_inBlock ?_
      refine Xg.at_seq ?_
      refine Xg.at_region ?_
      refine Xg.ops_op (by kernel_rfl) (Xg.opx_pure ((pv p 0)) rfl (fun _ => by kernel_rfl) ?_)
      refine Xg.ops_op (by kernel_rfl) (Xg.opx_pure ((iv a)) rfl (fun _ => by kernel_rfl) ?_)
      refine Xg.ops_op (by kernel_rfl) (Xg.opx_call1' [0, 1, 2, 3] [CR p h ra rn rc ma mn mc (V2 mb), bts ra rn rc R, bts ma mn mc M, MR2 mb r] (fun _ => by kernel_rfl) (@hce ) (by kernel_rfl) (by kernel_rfl) (by kernel_rfl) ?_)
      refine Xg.ops_op (by kernel_rfl) (Xg.opx_pure ((iv (↑cn : Int))) rfl (fun _ => by kernel_rfl) ?_)
      refine Xg.ops_nil ?_
      refine Xg.at_seq ?_
      refine Xg.at_block ?_
      refine Xg.at_seq ?_
      refine Xg.at_region ?_
      refine Xg.ops_op (by kernel_rfl) (Xg.opx_pure ((iv (↑cn : Int))) rfl (fun _ => by kernel_rfl) ?_)
      refine Xg.ops_op (by kernel_rfl) (Xg.opx_pure (.bool (decide ((((↑cn : Int)) : Int) < ((0 : Int))))) rfl (fun _ => by kernel_rfl) ?_)
      refine Xg.ops_op (by kernel_rfl) (Xg.opx_pure ((Value.bool (decide ((↑cn : Int) < (0 : Int))))) rfl (fun _ => by kernel_rfl) ?_)
      refine Xg.ops_nil ?_
      refine Xg.at_false (t := false) (by kernel_rfl) rfl ?_
      refine Xg.at_seq ?_
      refine Xg.at_region ?_
      refine Xg.ops_op (by kernel_rfl) (Xg.opx_pure ((pv p 0)) rfl (fun _ => by kernel_rfl) ?_)
      refine Xg.ops_op (by kernel_rfl) (Xg.opx_pure ((pv p 0)) rfl (fun _ => by kernel_rfl) ?_)
      refine Xg.ops_op (by kernel_rfl) (Xg.opx_pure ((pv p 0)) rfl (fun _ => by kernel_rfl) ?_)
      refine Xg.ops_op (by kernel_rfl) (Xg.opx_pure ((pv p 2)) rfl (fun _ => by kernel_rfl) ?_)
      refine Xg.ops_op (by kernel_rfl) (Xg.opx_load (b := p) (off := ((2 : Nat))) 0 (iv h.mp) rfl (by kernel_rfl) (by kernel_rfl) (by kernel_rfl) ?_)
      refine Xg.ops_op (by kernel_rfl) (Xg.opx_pure (.bool (decide ((h.mp : Int) = ((2 : Int))))) rfl (fun _ => by kernel_rfl) ?_)
      refine Xg.ops_op (by kernel_rfl) (Xg.opx_pure ((Value.bool (decide (h.mp = (2 : Int))))) rfl (fun _ => by kernel_rfl) ?_)
      refine Xg.ops_nil ?_
      refine Xg.at_true (t := decide ((h.mp = (2 : Int)))) (by kernel_rfl) (decide_eq_true (by omega)) ?_
      refine Xg.at_seq ?_
      refine Xg.at_region ?_
      refine Xg.ops_op (by kernel_rfl) (Xg.opx_pure ((pv p 0)) rfl (fun _ => by kernel_rfl) ?_)
      refine Xg.ops_op (by kernel_rfl) (Xg.opx_pure ((pv p 0)) rfl (fun _ => by kernel_rfl) ?_)
      refine Xg.ops_op (by kernel_rfl) (Xg.opx_pure ((pv p 7)) rfl (fun _ => by kernel_rfl) ?_)
      refine Xg.ops_op (by kernel_rfl) (Xg.opx_load (b := p) (off := ((7 : Nat))) 0 (Value.slice ma mn mc) rfl (by kernel_rfl) (by kernel_rfl) (by kernel_rfl) ?_)
      refine Xg.ops_op (by kernel_rfl) (Xg.opx_pure ((iv (↑cn : Int))) rfl (fun _ => by kernel_rfl) ?_)
      refine Xg.ops_op (by kernel_rfl) (Xg.opx_ix_own (elem := 5) (kd := .i64) (e := ((↑cn : Int))) 2 1 cn cn rfl (by kernel_rfl) (by kernel_rfl) (by kernel_rfl) (by kernel_rfl) rfl (by omega) (by omega) ?_)
      refine Xg.ops_op (by kernel_rfl) (Xg.opx_load_own (a := ma) (off := cn) 2 (uv (M.getD cn (0 : Int))) rfl (by kernel_rfl) (Xg.get_ints (by omega)) (by kernel_rfl) ?_)
      refine Xg.ops_op (by kernel_rfl) (Xg.opx_pure (.int .u8 (Xg.bor .u8 ((M.getD cn (0 : Int))) (((240 : Int))))) rfl (fun _ => by kernel_rfl) ?_)
      refine Xg.ops_op (by kernel_rfl) (Xg.opx_pure ((uv (bor IntKind.u8 (M.getD cn (0 : Int)) (240 : Int)))) rfl (fun _ => by kernel_rfl) ?_)
      refine Xg.ops_nil ?_
      refine Xg.at_ret_ps (v := (uv (bor IntKind.u8 (M.getD cn (0 : Int)) (240 : Int)))) [0, 1, 2, 3] [CR p h ra rn rc ma mn mc (V2 mb), bts ra rn rc R, bts ma mn mc M, MR2 mb r] Go.Proofs.Tryd.func12 (fun _ => by kernel_rfl) (by kernel_rfl) (by kernel_rfl) ?_
      exact ⟨by kernel_rfl, by kernel_rfl⟩)
theorem writeR2_d (p mb : Nat) (h : Hd) (r : Rg) (ra : Option Addr) (rn rc : Nat) (ma : Option Addr) (mn mc : Nat) (R M : List Int) (a v : Int) (hwa : 0 ≤ a ∧ a < 32768) (hv : 0 ≤ v ∧ v ≤ 255) : Does Tryd.prog 13 [.pointer (some ⟨p, 0, none⟩), .int .i64 a, .int .u8 v] [CR p h ra rn rc ma mn mc (V2 mb), bts ra rn rc R, bts ma mn mc M, MR2 mb r] (Ret (.tuple #[]) [CR p h ra rn rc ma mn mc (V2 mb), bts ra rn rc R, bts ma mn mc M, MR2 mb (regW2 r a v)]) := by
  have hw := write2_d mb r a v hwa hv
  (focus
    refine Xg.spec_of Go.Proofs.Tryd.func13 rfl Go.Proofs.Tryd.ntmps13 fun g F => ?_)
  (focus
    refine Xg.at_seq ?_
    refine Xg.at_seq ?_
    refine Xg.at_region ?_
    refine Xg.ops_op (by kernel_rfl) (Xg.opx_pure ((iv a)) rfl (fun _ => by kernel_rfl) ?_)
    refine Xg.ops_op (by kernel_rfl) (Xg.opx_pure (.bool (decide ((a : Int) ≥ ((0 : Int))))) rfl (fun _ => by kernel_rfl) ?_)
    refine Xg.ops_op (by kernel_rfl) (Xg.opx_pure ((Value.bool (decide (a ≥ (0 : Int))))) rfl (fun _ => by kernel_rfl) ?_)
    refine Xg.ops_flag (j := 9) (c := (decide (a ≥ (0 : Int)))) (by kernel_rfl) (fun _ => ?_) (fun xh1 => absurd (of_decide_eq_false xh1) (by omega))
    refine Xg.ops_op (by kernel_rfl) (Xg.opx_pure ((iv a)) rfl (fun _ => by kernel_rfl) ?_)
    refine Xg.ops_op (by kernel_rfl) (Xg.opx_pure (.bool (decide ((a : Int) < ((32768 : Int))))) rfl (fun _ => by kernel_rfl) ?_)
    refine Xg.ops_flag (j := 11) (c := (decide (a < (32768 : Int)))) (by kernel_rfl) (fun _ => ?_) (fun xh1 => absurd (of_decide_eq_false xh1) (by omega))
    refine Xg.ops_op (by kernel_rfl) (Xg.opx_pure ((Value.bool true)) rfl (fun _ => by kernel_rfl) ?_)
    refine Xg.ops_nil ?_
    refine Xg.at_true (t := true) (by kernel_rfl) rfl ?_
    refine Xg.at_seq ?_
    refine Xg.at_region ?_
    refine Xg.ops_op (by kernel_rfl) (Xg.opx_pure ((pv p 0)) rfl (fun _ => by kernel_rfl) ?_)
    refine Xg.ops_op (by kernel_rfl) (Xg.opx_pure ((pv p 0)) rfl (fun _ => by kernel_rfl) ?_)
    refine Xg.ops_op (by kernel_rfl) (Xg.opx_pure ((pv p 8)) rfl (fun _ => by kernel_rfl) ?_)
    refine Xg.ops_op (by kernel_rfl) (Xg.opx_load (b := p) (off := ((8 : Nat))) 0 (Value.iface (75 : Nat) (pv mb 0)) rfl (by kernel_rfl) (by kernel_rfl) (by kernel_rfl) ?_)
    refine Xg.ops_op (by kernel_rfl) (Xg.opx_pure ((iv a)) rfl (fun _ => by kernel_rfl) ?_)
    refine Xg.ops_op (by kernel_rfl) (Xg.opx_pure ((uv v)) rfl (fun _ => by kernel_rfl) ?_)
    refine Xg.ops_op (by kernel_rfl) (Xg.opx_call1' [3] [MR2 mb (regW2 r a v), CR p h ra rn rc ma mn mc (V2 mb), bts ra rn rc R, bts ma mn mc M] (fun _ => by kernel_rfl) (@hw ) (by kernel_rfl) (by kernel_rfl) (by kernel_rfl) ?_)
    refine Xg.ops_nil ?_
    refine Xg.at_ret_ps (v := (tu)) [1, 2, 3, 0] [CR p h ra rn rc ma mn mc (V2 mb), bts ra rn rc R, bts ma mn mc M, MR2 mb (regW2 r a v)] Go.Proofs.Tryd.func13 (fun _ => by kernel_rfl) (by kernel_rfl) (by kernel_rfl) ?_
    exact ⟨by kernel_rfl, by kernel_rfl⟩)
theorem writeN2_d (p mb : Nat) (h : Hd) (r : Rg) (ra : Option Addr) (rn rc : Nat) (ma : Option Addr) (mn mc : Nat) (R M : List Int) (a v : Int) (ha : iok a) (hwa : a < 0 ∨ 32767 < a) (hv : 0 ≤ v ∧ v ≤ 255) (hr : r.Ok) (hbk : 2 ≤ h.bk ∧ h.bk ≤ 128) (hR : R.length = rn) (hrn : (rn : Int) = 16384 * h.bk) (hrc : rn ≤ rc) (hM : M.length = mn) (hmc : mn ≤ mc) (hB : isB M) (hmp : h.mp = 2) (hmo : ramOk 2 mn) (hc : cellI 2 r mn a < 0) : Does Tryd.prog 13 [.pointer (some ⟨p, 0, none⟩), .int .i64 a, .int .u8 v] [CR p h ra rn rc ma mn mc (V2 mb), bts ra rn rc R, bts ma mn mc M, MR2 mb r] (Ret (.tuple #[]) [CR p h ra rn rc ma mn mc (V2 mb), bts ra rn rc R, bts ma mn mc M, MR2 mb r]) := by
  have hce := cell2_d p mb h r ra rn rc ma mn mc R M a ha hr hbk hR hrn hrc hM hmc hB hmp hmo
  obtain ⟨ci, hci⟩ : ∃ ci, cellI 2 r mn a = ci := ⟨_, rfl⟩
  rw [hci] at hce hc
  by_cases h4 : a < 0
  · (focus
      refine Xg.spec_of Go.Proofs.Tryd.func13 rfl Go.Proofs.Tryd.ntmps13 fun g F => ?_)
    (focus
      refine Xg.at_seq ?_
      refine Xg.at_seq ?_
      refine Xg.at_region ?_
      refine Xg.ops_op (by kernel_rfl) (Xg.opx_pure ((iv a)) rfl (fun _ => by kernel_rfl) ?_)
      refine Xg.ops_op (by kernel_rfl) (Xg.opx_pure (.bool (decide ((a : Int) ≥ ((0 : Int))))) rfl (fun _ => by kernel_rfl) ?_)
      refine Xg.ops_op (by kernel_rfl) (Xg.opx_pure ((Value.bool (decide (a ≥ (0 : Int))))) rfl (fun _ => by kernel_rfl) ?_)
      refine Xg.ops_flag (j := 9) (c := (decide (a ≥ (0 : Int)))) (by kernel_rfl) (fun xh1 => absurd (of_decide_eq_true xh1) (by omega)) (fun _ => ?_)
      refine Xg.ops_skip (by kernel_rfl) ?_
      refine Xg.ops_skip (by kernel_rfl) ?_
      refine Xg.ops_op (by kernel_rfl) (Xg.opx_pure ((Value.bool false)) rfl (fun _ => by kernel_rfl) ?_)
      refine Xg.ops_nil ?_
      refine Xg.at_false (t := false) (by kernel_rfl) rfl ?_
      refine Xg.at_skip ?_
      refine Xg.at_seq ?_
      refine Xg.at_region ?_
      refine Xg.ops_op (by kernel_rfl) (Xg.opx_pure ((pv p 0)) rfl (fun _ => by kernel_rfl) ?_)
      refine Xg.ops_op (by kernel_rfl) (Xg.opx_pure ((iv a)) rfl (fun _ => by kernel_rfl) ?_)
      refine Xg.ops_op (by kernel_rfl) (Xg.opx_call1' [0, 1, 2, 3] [CR p h ra rn rc ma mn mc (V2 mb), bts ra rn rc R, bts ma mn mc M, MR2 mb r] (fun _ => by kernel_rfl) (@hce ) (by kernel_rfl) (by kernel_rfl) (by kernel_rfl) ?_)
      refine Xg.ops_op (by kernel_rfl) (Xg.opx_pure ((iv ci)) rfl (fun _ => by kernel_rfl) ?_)
      refine Xg.ops_nil ?_
      refine Xg.at_seq ?_
      refine Xg.at_seq ?_
      refine Xg.at_region ?_
      refine Xg.ops_op (by kernel_rfl) (Xg.opx_pure ((iv ci)) rfl (fun _ => by kernel_rfl) ?_)
      refine Xg.ops_op (by kernel_rfl) (Xg.opx_pure (.bool (decide ((ci : Int) < ((0 : Int))))) rfl (fun _ => by kernel_rfl) ?_)
      refine Xg.ops_nil ?_
      refine Xg.at_true (t := decide ((ci < (0 : Int)))) (by kernel_rfl) (decide_eq_true (by omega)) ?_
      refine Xg.at_ret_ps (v := (tu)) [0, 1, 2, 3] [CR p h ra rn rc ma mn mc (V2 mb), bts ra rn rc R, bts ma mn mc M, MR2 mb r] Go.Proofs.Tryd.func13 (fun _ => by kernel_rfl) (by kernel_rfl) (by kernel_rfl) ?_
      exact ⟨by kernel_rfl, by kernel_rfl⟩)
  · (focus
      refine Xg.spec_of Go.Proofs.Tryd.func13 rfl Go.Proofs.Tryd.ntmps13 fun g F => ?_)
    (focus
      refine Xg.at_seq ?_
      refine Xg.at_seq ?_
      refine Xg.at_region ?_
      refine Xg.ops_op (by kernel_rfl) (Xg.opx_pure ((iv a)) rfl (fun _ => by kernel_rfl) ?_)
      refine Xg.ops_op (by kernel_rfl) (Xg.opx_pure (.bool (decide ((a : Int) ≥ ((0 : Int))))) rfl (fun _ => by kernel_rfl) ?_)
      refine Xg.ops_op (by kernel_rfl) (Xg.opx_pure ((Value.bool (decide (a ≥ (0 : Int))))) rfl (fun _ => by kernel_rfl) ?_)
      refine Xg.ops_flag (j := 9) (c := (decide (a ≥ (0 : Int)))) (by kernel_rfl) (fun _ => ?_) (fun xh1 => absurd (of_decide_eq_false xh1) (by omega))
      refine Xg.ops_op (by kernel_rfl) (Xg.opx_pure ((iv a)) rfl (fun _ => by kernel_rfl) ?_)
      refine Xg.ops_op (by kernel_rfl) (Xg.opx_pure (.bool (decide ((a : Int) < ((32768 : Int))))) rfl (fun _ => by kernel_rfl) ?_)
      refine Xg.ops_flag (j := 11) (c := (decide (a < (32768 : Int)))) (by kernel_rfl) (fun xh1 => absurd (of_decide_eq_true xh1) (by omega)) (fun _ => ?_)
      refine Xg.ops_op (by kernel_rfl) (Xg.opx_pure ((Value.bool false)) rfl (fun _ => by kernel_rfl) ?_)
      refine Xg.ops_nil ?_
      refine Xg.at_false (t := false) (by kernel_rfl) rfl ?_
      refine Xg.at_skip ?_
      refine Xg.at_seq ?_
      refine Xg.at_region ?_
      refine Xg.ops_op (by kernel_rfl) (Xg.opx_pure ((pv p 0)) rfl (fun _ => by kernel_rfl) ?_)
      refine Xg.ops_op (by kernel_rfl) (Xg.opx_pure ((iv a)) rfl (fun _ => by kernel_rfl) ?_)
      refine Xg.ops_op (by kernel_rfl) (Xg.opx_call1' [0, 1, 2, 3] [CR p h ra rn rc ma mn mc (V2 mb), bts ra rn rc R, bts ma mn mc M, MR2 mb r] (fun _ => by kernel_rfl) (@hce ) (by kernel_rfl) (by kernel_rfl) (by kernel_rfl) ?_)
      refine Xg.ops_op (by kernel_rfl) (Xg.opx_pure ((iv ci)) rfl (fun _ => by kernel_rfl) ?_)
      refine Xg.ops_nil ?_
      refine Xg.at_seq ?_
      refine Xg.at_seq ?_
      refine Xg.at_region ?_
      refine Xg.ops_op (by kernel_rfl) (Xg.opx_pure ((iv ci)) rfl (fun _ => by kernel_rfl) ?_)
      refine Xg.ops_op (by kernel_rfl) (Xg.opx_pure (.bool (decide ((ci : Int) < ((0 : Int))))) rfl (fun _ => by kernel_rfl) ?_)
      refine Xg.ops_nil ?_
      refine Xg.at_true (t := decide ((ci < (0 : Int)))) (by kernel_rfl) (decide_eq_true (by omega)) ?_
      refine Xg.at_ret_ps (v := (tu)) [0, 1, 2, 3] [CR p h ra rn rc ma mn mc (V2 mb), bts ra rn rc R, bts ma mn mc M, MR2 mb r] Go.Proofs.Tryd.func13 (fun _ => by kernel_rfl) (by kernel_rfl) (by kernel_rfl) ?_
      exact ⟨by kernel_rfl, by kernel_rfl⟩)
theorem writeM2_d (p mb : Nat) (h : Hd) (r : Rg) (ra : Option Addr) (rn rc : Nat) (ma : Option Addr) (mn mc : Nat) (R M : List Int) (a v : Int) (ha : iok a) (hwa : a < 0 ∨ 32767 < a) (hv : 0 ≤ v ∧ v ≤ 255) (hr : r.Ok) (hbk : 2 ≤ h.bk ∧ h.bk ≤ 128) (hR : R.length = rn) (hrn : (rn : Int) = 16384 * h.bk) (hrc : rn ≤ rc) (hM : M.length = mn) (hmc : mn ≤ mc) (hB : isB M) (hmp : h.mp = 2) (hmo : ramOk 2 mn) (hc : ¬ cellI 2 r mn a < 0) : Does Tryd.prog 13 [.pointer (some ⟨p, 0, none⟩), .int .i64 a, .int .u8 v] [CR p h ra rn rc ma mn mc (V2 mb), bts ra rn rc R, bts ma mn mc M, MR2 mb r] (Ret (.tuple #[]) [CR p h ra rn rc ma mn mc (V2 mb), bts ra rn rc R, bts ma mn mc (M.set (cellI 2 r mn a).toNat (v % 16)), MR2 mb r]) := by
  have hce := cell2_d p mb h r ra rn rc ma mn mc R M a ha hr hbk hR hrn hrc hM hmc hB hmp hmo
  have hlt := cell_lt 2 r mn a hr hmo hc
  obtain ⟨ci, hci⟩ : ∃ ci, cellI 2 r mn a = ci := ⟨_, rfl⟩
  rw [hci] at hce hc hlt ⊢
  obtain ⟨cn, rfl⟩ : ∃ cn : Nat, ci = (cn : Int) := ⟨ci.toNat, by omega⟩
  rw [Int.toNat_natCast]
  have hb15 := band_lo v 15 16 hv (by decide)
  rw [← hb15]
  have hl9 : cn < M.length := by omega
  by_cases h4 : a < 0
  · (focus
      refine Xg.spec_of Go.Proofs.Tryd.func13 rfl Go.Proofs.Tryd.ntmps13 fun g F => ?_)
    (focus
      refine Xg.at_seq ?_
      refine Xg.at_seq ?_
      refine Xg.at_region ?_
      refine Xg.ops_op (by kernel_rfl) (Xg.opx_pure ((iv a)) rfl (fun _ => by kernel_rfl) ?_)
      refine Xg.ops_op (by kernel_rfl) (Xg.opx_pure (.bool (decide ((a : Int) ≥ ((0 : Int))))) rfl (fun _ => by kernel_rfl) ?_)
      refine Xg.ops_op (by kernel_rfl) (Xg.opx_pure ((Value.bool (decide (a ≥ (0 : Int))))) rfl (fun _ => by kernel_rfl) ?_)
      refine Xg.ops_flag (j := 9) (c := (decide (a ≥ (0 : Int)))) (by kernel_rfl) (fun xh1 => absurd (of_decide_eq_true xh1) (by omega)) (fun _ => ?_)
      refine Xg.ops_skip (by kernel_rfl) ?_
      refine Xg.ops_skip (by kernel_rfl) ?_
      refine Xg.ops_op (by kernel_rfl) (Xg.opx_pure ((Value.bool false)) rfl (fun _ => by kernel_rfl) ?_)
      refine Xg.ops_nil ?_
      refine Xg.at_false (t := false) (by kernel_rfl) rfl ?_
      refine Xg.at_skip ?_
      refine Xg.at_seq ?_
      refine Xg.at_region ?_
      refine Xg.ops_op (by kernel_rfl) (Xg.opx_pure ((pv p 0)) rfl (fun _ => by kernel_rfl) ?_)
      refine Xg.ops_op (by kernel_rfl) (Xg.opx_pure ((iv a)) rfl (fun _ => by kernel_rfl) ?_)
      refine Xg.ops_op (by kernel_rfl) (Xg.opx_call1' [0, 1, 2, 3] [CR p h ra rn rc ma mn mc (V2 mb), bts ra rn rc R, bts ma mn mc M, MR2 mb r] (fun _ => by kernel_rfl) (@hce ) (by kernel_rfl) (by kernel_rfl) (by kernel_rfl) ?_)
      refine Xg.ops_op (by kernel_rfl) (Xg.opx_pure ((iv (↑cn : Int))) rfl (fun _ => by kernel_rfl) ?_)
      refine Xg.ops_nil ?_
      refine Xg.at_seq ?_
      refine Xg.at_seq ?_
      refine Xg.at_region ?_
      refine Xg.ops_op (by kernel_rfl) (Xg.opx_pure ((iv (↑cn : Int))) rfl (fun _ => by kernel_rfl) ?_)
      refine Xg.ops_op (by kernel_rfl) (Xg.opx_pure (.bool (decide ((((↑cn : Int)) : Int) < ((0 : Int))))) rfl (fun _ => by kernel_rfl) ?_)
      refine Xg.ops_nil ?_
      refine Xg.at_false (t := false) (by kernel_rfl) rfl ?_
      refine Xg.at_skip ?_
      refine Xg.at_seq ?_
      refine Xg.at_seq ?_
      refine Xg.at_region ?_
      refine Xg.ops_op (by kernel_rfl) (Xg.opx_pure ((pv p 0)) rfl (fun _ => by kernel_rfl) ?_)
      refine Xg.ops_op (by kernel_rfl) (Xg.opx_pure ((pv p 0)) rfl (fun _ => by kernel_rfl) ?_)
      refine Xg.ops_op (by kernel_rfl) (Xg.opx_pure ((pv p 0)) rfl (fun _ => by kernel_rfl) ?_)
      refine Xg.ops_op (by kernel_rfl) (Xg.opx_pure ((pv p 2)) rfl (fun _ => by kernel_rfl) ?_)
      refine Xg.ops_op (by kernel_rfl) (Xg.opx_load (b := p) (off := ((2 : Nat))) 0 (iv h.mp) rfl (by kernel_rfl) (by kernel_rfl) (by kernel_rfl) ?_)
      refine Xg.ops_op (by kernel_rfl) (Xg.opx_pure (.bool (decide ((h.mp : Int) = ((2 : Int))))) rfl (fun _ => by kernel_rfl) ?_)
      refine Xg.ops_nil ?_
      refine Xg.at_true (t := decide ((h.mp = (2 : Int)))) (by kernel_rfl) (decide_eq_true (by omega)) ?_
      refine Xg.at_region ?_
      refine Xg.ops_op (by kernel_rfl) (Xg.opx_pure ((uv v)) rfl (fun _ => by kernel_rfl) ?_)
      refine Xg.ops_op (by kernel_rfl) (Xg.opx_pure (.int .u8 (Xg.band .u8 (v) (((15 : Int))))) rfl (fun _ => by kernel_rfl) ?_)
      refine Xg.ops_op (by kernel_rfl) (Xg.opx_pure ((uv (band IntKind.u8 v (15 : Int)))) rfl (fun _ => by kernel_rfl) ?_)
      refine Xg.ops_nil ?_
      refine Xg.at_region ?_
      refine Xg.ops_op (by kernel_rfl) (Xg.opx_pure ((pv p 0)) rfl (fun _ => by kernel_rfl) ?_)
      refine Xg.ops_op (by kernel_rfl) (Xg.opx_pure ((pv p 0)) rfl (fun _ => by kernel_rfl) ?_)
      refine Xg.ops_op (by kernel_rfl) (Xg.opx_pure ((pv p 7)) rfl (fun _ => by kernel_rfl) ?_)
      refine Xg.ops_op (by kernel_rfl) (Xg.opx_load (b := p) (off := ((7 : Nat))) 0 (Value.slice ma mn mc) rfl (by kernel_rfl) (by kernel_rfl) (by kernel_rfl) ?_)
      refine Xg.ops_op (by kernel_rfl) (Xg.opx_pure ((iv (↑cn : Int))) rfl (fun _ => by kernel_rfl) ?_)
      refine Xg.ops_op (by kernel_rfl) (Xg.opx_pure ((uv (band IntKind.u8 v (15 : Int)))) rfl (fun _ => by kernel_rfl) ?_)
      refine Xg.ops_op (by kernel_rfl) (Xg.opx_ix_own (elem := 5) (kd := .i64) (e := ((↑cn : Int))) 2 1 cn cn rfl (by kernel_rfl) (by kernel_rfl) (by kernel_rfl) (by kernel_rfl) rfl (by omega) (by omega) ?_)
      refine Xg.ops_op (by kernel_rfl) (Xg.opx_store_own_i (a := ma) (off := cn) (kd := .u8) (xs := M) (e := (band IntKind.u8 v (15 : Int))) 2 (by kernel_rfl) rfl (by kernel_rfl) (by kernel_rfl) (by first | omega | (simp only [List.length_set]; omega)) ?_)
      refine Xg.ops_nil ?_
      refine Xg.at_end_ps (v := (tu)) [0, 1, 2, 3] [CR p h ra rn rc ma mn mc (V2 mb), bts ra rn rc R, ownS (5 : TypeId) (1 : Nat) (Value.slice ma mn mc) mn (List.map (Value.int IntKind.u8) (M.set cn (band IntKind.u8 v (15 : Int)))), MR2 mb r] Go.Proofs.Tryd.func13 (fun _ => by kernel_rfl) (by kernel_rfl) (by kernel_rfl) ?_
      exact ⟨by kernel_rfl, by kernel_rfl⟩)
  · (focus
      refine Xg.spec_of Go.Proofs.Tryd.func13 rfl Go.Proofs.Tryd.ntmps13 fun g F => ?_)
    (focus
      refine Xg.at_seq ?_
      refine Xg.at_seq ?_
      refine Xg.at_region ?_
      refine Xg.ops_op (by kernel_rfl) (Xg.opx_pure ((iv a)) rfl (fun _ => by kernel_rfl) ?_)
      refine Xg.ops_op (by kernel_rfl) (Xg.opx_pure (.bool (decide ((a : Int) ≥ ((0 : Int))))) rfl (fun _ => by kernel_rfl) ?_)
      refine Xg.ops_op (by kernel_rfl) (Xg.opx_pure ((Value.bool (decide (a ≥ (0 : Int))))) rfl (fun _ => by kernel_rfl) ?_)
      refine Xg.ops_flag (j := 9) (c := (decide (a ≥ (0 : Int)))) (by kernel_rfl) (fun _ => ?_) (fun xh1 => absurd (of_decide_eq_false xh1) (by omega))
      refine Xg.ops_op (by kernel_rfl) (Xg.opx_pure ((iv a)) rfl (fun _ => by kernel_rfl) ?_)
      refine Xg.ops_op (by kernel_rfl) (Xg.opx_pure (.bool (decide ((a : Int) < ((32768 : Int))))) rfl (fun _ => by kernel_rfl) ?_)
      refine Xg.ops_flag (j := 11) (c := (decide (a < (32768 : Int)))) (by kernel_rfl) (fun xh1 => absurd (of_decide_eq_true xh1) (by omega)) (fun _ => ?_)
      refine Xg.ops_op (by kernel_rfl) (Xg.opx_pure ((Value.bool false)) rfl (fun _ => by kernel_rfl) ?_)
      refine Xg.ops_nil ?_
      refine Xg.at_false (t := false) (by kernel_rfl) rfl ?_
      refine Xg.at_skip ?_
      refine Xg.at_seq ?_
      refine Xg.at_region ?_
      refine Xg.ops_op (by kernel_rfl) (Xg.opx_pure ((pv p 0)) rfl (fun _ => by kernel_rfl) ?_)
      refine Xg.ops_op (by kernel_rfl) (Xg.opx_pure ((iv a)) rfl (fun _ => by kernel_rfl) ?_)
      refine Xg.ops_op (by kernel_rfl) (Xg.opx_call1' [0, 1, 2, 3] [CR p h ra rn rc ma mn mc (V2 mb), bts ra rn rc R, bts ma mn mc M, MR2 mb r] (fun _ => by kernel_rfl) (@hce ) (by kernel_rfl) (by kernel_rfl) (by kernel_rfl) ?_)
      refine Xg.ops_op (by kernel_rfl) (Xg.opx_pure ((iv (↑cn : Int))) rfl (fun _ => by kernel_rfl) ?_)
      refine Xg.ops_nil ?_
      refine Xg.at_seq ?_
      refine Xg.at_seq ?_
      refine Xg.at_region ?_
      refine Xg.ops_op (by kernel_rfl) (Xg.opx_pure ((iv (↑cn : Int))) rfl (fun _ => by kernel_rfl) ?_)
      refine Xg.ops_op (by kernel_rfl) (Xg.opx_pure (.bool (decide ((((↑cn : Int)) : Int) < ((0 : Int))))) rfl (fun _ => by kernel_rfl) ?_)
      refine Xg.ops_nil ?_
      refine Xg.at_false (t := false) (by kernel_rfl) rfl ?_
      refine Xg.at_skip ?_
      refine Xg.at_seq ?_
      refine Xg.at_seq ?_
      refine Xg.at_region ?_
      refine Xg.ops_op (by kernel_rfl) (Xg.opx_pure ((pv p 0)) rfl (fun _ => by kernel_rfl) ?_)
      refine Xg.ops_op (by kernel_rfl) (Xg.opx_pure ((pv p 0)) rfl (fun _ => by kernel_rfl) ?_)
      refine Xg.ops_op (by kernel_rfl) (Xg.opx_pure ((pv p 0)) rfl (fun _ => by kernel_rfl) ?_)
      refine Xg.ops_op (by kernel_rfl) (Xg.opx_pure ((pv p 2)) rfl (fun _ => by kernel_rfl) ?_)
      refine Xg.ops_op (by kernel_rfl) (Xg.opx_load (b := p) (off := ((2 : Nat))) 0 (iv h.mp) rfl (by kernel_rfl) (by kernel_rfl) (by kernel_rfl) ?_)
      refine Xg.ops_op (by kernel_rfl) (Xg.opx_pure (.bool (decide ((h.mp : Int) = ((2 : Int))))) rfl (fun _ => by kernel_rfl) ?_)
      refine Xg.ops_nil ?_
      refine Xg.at_true (t := decide ((h.mp = (2 : Int)))) (by kernel_rfl) (decide_eq_true (by omega)) ?_
      refine Xg.at_region ?_
      refine Xg.ops_op (by kernel_rfl) (Xg.opx_pure ((uv v)) rfl (fun _ => by kernel_rfl) ?_)
      refine Xg.ops_op (by kernel_rfl) (Xg.opx_pure (.int .u8 (Xg.band .u8 (v) (((15 : Int))))) rfl (fun _ => by kernel_rfl) ?_)
      refine Xg.ops_op (by kernel_rfl) (Xg.opx_pure ((uv (band IntKind.u8 v (15 : Int)))) rfl (fun _ => by kernel_rfl) ?_)
      refine Xg.ops_nil ?_
      refine Xg.at_region ?_
      refine Xg.ops_op (by kernel_rfl) (Xg.opx_pure ((pv p 0)) rfl (fun _ => by kernel_rfl) ?_)
      refine Xg.ops_op (by kernel_rfl) (Xg.opx_pure ((pv p 0)) rfl (fun _ => by kernel_rfl) ?_)
      refine Xg.ops_op (by kernel_rfl) (Xg.opx_pure ((pv p 7)) rfl (fun _ => by kernel_rfl) ?_)
      refine Xg.ops_op (by kernel_rfl) (Xg.opx_load (b := p) (off := ((7 : Nat))) 0 (Value.slice ma mn mc) rfl (by kernel_rfl) (by kernel_rfl) (by kernel_rfl) ?_)
      refine Xg.ops_op (by kernel_rfl) (Xg.opx_pure ((iv (↑cn : Int))) rfl (fun _ => by kernel_rfl) ?_)
      refine Xg.ops_op (by kernel_rfl) (Xg.opx_pure ((uv (band IntKind.u8 v (15 : Int)))) rfl (fun _ => by kernel_rfl) ?_)
      refine Xg.ops_op (by kernel_rfl) (Xg.opx_ix_own (elem := 5) (kd := .i64) (e := ((↑cn : Int))) 2 1 cn cn rfl (by kernel_rfl) (by kernel_rfl) (by kernel_rfl) (by kernel_rfl) rfl (by omega) (by omega) ?_)
      refine Xg.ops_op (by kernel_rfl) (Xg.opx_store_own_i (a := ma) (off := cn) (kd := .u8) (xs := M) (e := (band IntKind.u8 v (15 : Int))) 2 (by kernel_rfl) rfl (by kernel_rfl) (by kernel_rfl) (by first | omega | (simp only [List.length_set]; omega)) ?_)
      refine Xg.ops_nil ?_
      refine Xg.at_end_ps (v := (tu)) [0, 1, 2, 3] [CR p h ra rn rc ma mn mc (V2 mb), bts ra rn rc R, ownS (5 : TypeId) (1 : Nat) (Value.slice ma mn mc) mn (List.map (Value.int IntKind.u8) (M.set cn (band IntKind.u8 v (15 : Int)))), MR2 mb r] Go.Proofs.Tryd.func13 (fun _ => by kernel_rfl) (by kernel_rfl) (by kernel_rfl) ?_
      exact ⟨by kernel_rfl, by kernel_rfl⟩)
theorem read3_d (p mb : Nat) (h : Hd) (r : Rg) (ra : Option Addr) (rn rc : Nat) (ma : Option Addr) (mn mc : Nat) (R M : List Int) (a : Int) (ha : iok a) (hr : r.Ok) (hbk : 2 ≤ h.bk ∧ h.bk ≤ 128) (hR : R.length = rn) (hrn : (rn : Int) = 16384 * h.bk) (hrc : rn ≤ rc) (hM : M.length = mn) (hmc : mn ≤ mc) (hB : isB M) (hmp : h.mp = 3) (hmo : ramOk 3 mn) : Does Tryd.prog 12 [.pointer (some ⟨p, 0, none⟩), .int .i64 a] [CR p h ra rn rc ma mn mc (V3 mb), bts ra rn rc R, bts ma mn mc M, MR3 mb r] (Ret (.int .u8 (readI 3 r h.bk R M a)) [CR p h ra rn rc ma mn mc (V3 mb), bts ra rn rc R, bts ma mn mc M, MR3 mb r]) := by
  have hlo := low3_d mb r
  have hhi := high3_d mb r hr
  have hce := cell3_d p mb h r ra rn rc ma mn mc R M a ha hr hbk hR hrn hrc hM hmc hB hmp hmo
  obtain ⟨hb1, hb2, hb3, hb4⟩ := bank_ok 3 r hr
  have hlt := cell_lt 3 r mn a hr hmo
  unfold readI
  rw [hM]
  by_cases h1 : 0 ≤ a ∧ a < 16384
  · have hat := at_d p h ra rn rc ma mn mc (V3 mb) R (lowB 3 r) a ⟨hb1, hb2⟩ ⟨by omega, by omega⟩ ⟨by omega, by omega⟩ hR hrn hrc
    rw [if_pos h1]
    (focus
      refine Xg.spec_of Go.Proofs.Tryd.func12 rfl Go.Proofs.Tryd.ntmps12 fun g F => ?_)
    (focus
      refine Xg.at_seq ?_
      refine Xg.at_region ?_
      refine Xg.ops_op (by kernel_rfl) (Xg.opx_pure ((uv 0)) rfl (fun _ => by kernel_rfl) ?_)
      refine Xg.ops_nil ?_
      refine Xg.at_seq ?_
      refine Xg.at_block ?_
      refine Xg.at_seq ?_
      refine Xg.at_region ?_
      refine Xg.ops_op (by kernel_rfl) (Xg.opx_pure ((iv a)) rfl (fun _ => by kernel_rfl) ?_)
      refine Xg.ops_op (by kernel_rfl) (Xg.opx_pure (.bool (decide ((a : Int) ≥ ((0 : Int))))) rfl (fun _ => by kernel_rfl) ?_)
      refine Xg.ops_op (by kernel_rfl) (Xg.opx_pure ((Value.bool (decide (a ≥ (0 : Int))))) rfl (fun _ => by kernel_rfl) ?_)
      refine Xg.ops_flag (j := 9) (c := (decide (a ≥ (0 : Int)))) (by kernel_rfl) (fun _ => ?_) (fun xh1 => absurd (of_decide_eq_false xh1) (by omega))
      refine Xg.ops_op (by kernel_rfl) (Xg.opx_pure ((iv a)) rfl (fun _ => by kernel_rfl) ?_)
      refine Xg.ops_op (by kernel_rfl) (Xg.opx_pure (.bool (decide ((a : Int) < ((16384 : Int))))) rfl (fun _ => by kernel_rfl) ?_)
      refine Xg.ops_flag (j := 11) (c := (decide (a < (16384 : Int)))) (by kernel_rfl) (fun _ => ?_) (fun xh1 => absurd (of_decide_eq_false xh1) (by omega))
      refine Xg.ops_op (by kernel_rfl) (Xg.opx_pure ((Value.bool true)) rfl (fun _ => by kernel_rfl) ?_)
      refine Xg.ops_op (by kernel_rfl) (Xg.opx_pure ((Value.bool true)) rfl (fun _ => by kernel_rfl) ?_)
      refine Xg.ops_nil ?_
      refine Xg.at_true (t := true) (by kernel_rfl) rfl ?_
      refine Xg.at_seq ?_
      refine Xg.at_region ?_
      refine Xg.ops_op (by kernel_rfl) (Xg.opx_pure ((pv p 0)) rfl (fun _ => by kernel_rfl) ?_)
      refine Xg.ops_op (by kernel_rfl) (Xg.opx_pure ((pv p 0)) rfl (fun _ => by kernel_rfl) ?_)
      refine Xg.ops_op (by kernel_rfl) (Xg.opx_pure ((pv p 0)) rfl (fun _ => by kernel_rfl) ?_)
      refine Xg.ops_op (by kernel_rfl) (Xg.opx_pure ((pv p 8)) rfl (fun _ => by kernel_rfl) ?_)
      refine Xg.ops_op (by kernel_rfl) (Xg.opx_load (b := p) (off := ((8 : Nat))) 0 (Value.iface (78 : Nat) (pv mb 0)) rfl (by kernel_rfl) (by kernel_rfl) (by kernel_rfl) ?_)
      refine Xg.ops_op (by kernel_rfl) (Xg.opx_call1' [3] [MR3 mb r, CR p h ra rn rc ma mn mc (V3 mb), bts ra rn rc R, bts ma mn mc M] (fun _ => by kernel_rfl) (@hlo ) (by kernel_rfl) (by kernel_rfl) (by kernel_rfl) ?_)
      refine Xg.ops_op (by kernel_rfl) (Xg.opx_pure ((iv a)) rfl (fun _ => by kernel_rfl) ?_)
      refine Xg.ops_op (by kernel_rfl) (Xg.opx_call1' [1, 2] [CR p h ra rn rc ma mn mc (V3 mb), bts ra rn rc R, MR3 mb r, bts ma mn mc M] (fun _ => by kernel_rfl) (@hat ) (by kernel_rfl) (by kernel_rfl) (by kernel_rfl) ?_)
      refine Xg.ops_op (by kernel_rfl) (Xg.opx_pure ((uv (R.getD (lowB (3 : Nat) r % h.bk * (16384 : Int) + a % (16384 : Int)).toNat (0 : Int)))) rfl (fun _ => by kernel_rfl) ?_)
      refine Xg.ops_nil ?_
      refine Xg.at_ret_ps (v := (uv (R.getD (lowB (3 : Nat) r % h.bk * (16384 : Int) + a % (16384 : Int)).toNat (0 : Int)))) [0, 1, 3, 2] [CR p h ra rn rc ma mn mc (V3 mb), bts ra rn rc R, bts ma mn mc M, MR3 mb r] Go.Proofs.Tryd.func12 (fun _ => by kernel_rfl) (by kernel_rfl) (by kernel_rfl) ?_
      exact ⟨by kernel_rfl, by kernel_rfl⟩)
  rw [if_neg h1]
  by_cases h2 : 16384 ≤ a ∧ a < 32768
  · have hat := at_d p h ra rn rc ma mn mc (V3 mb) R (highB 3 r) a ⟨hb3, hb4⟩ ⟨by omega, by omega⟩ ⟨by omega, by omega⟩ hR hrn hrc
    rw [if_pos h2]
    (focus
      refine Xg.spec_of Go.Proofs.Tryd.func12 rfl Go.Proofs.Tryd.ntmps12 fun g F => ?_)
    (focus
      refine Xg.at_seq ?_
      refine Xg.at_region ?_
      refine Xg.ops_op (by kernel_rfl) (Xg.opx_pure ((uv 0)) rfl (fun _ => by kernel_rfl) ?_)
      refine Xg.ops_nil ?_
      refine Xg.at_seq ?_
      refine Xg.at_block ?_
      refine Xg.at_seq ?_
      refine Xg.at_region ?_
      refine Xg.ops_op (by kernel_rfl) (Xg.opx_pure ((iv a)) rfl (fun _ => by kernel_rfl) ?_)
      refine Xg.ops_op (by kernel_rfl) (Xg.opx_pure (.bool (decide ((a : Int) ≥ ((0 : Int))))) rfl (fun _ => by kernel_rfl) ?_)
      refine Xg.ops_op (by kernel_rfl) (Xg.opx_pure ((Value.bool (decide (a ≥ (0 : Int))))) rfl (fun _ => by kernel_rfl) ?_)
      refine Xg.ops_flag (j := 9) (c := (decide (a ≥ (0 : Int)))) (by kernel_rfl) (fun _ => ?_) (fun xh1 => absurd (of_decide_eq_false xh1) (by omega))
      refine Xg.ops_op (by kernel_rfl) (Xg.opx_pure ((iv a)) rfl (fun _ => by kernel_rfl) ?_)
      refine Xg.ops_op (by kernel_rfl) (Xg.opx_pure (.bool (decide ((a : Int) < ((16384 : Int))))) rfl (fun _ => by kernel_rfl) ?_)
      refine Xg.ops_flag (j := 11) (c := (decide (a < (16384 : Int)))) (by kernel_rfl) (fun xh1 => absurd (of_decide_eq_true xh1) (by omega)) (fun _ => ?_)
      refine Xg.ops_op (by kernel_rfl) (Xg.opx_pure ((Value.bool false)) rfl (fun _ => by kernel_rfl) ?_)
      refine Xg.ops_op (by kernel_rfl) (Xg.opx_pure ((Value.bool false)) rfl (fun _ => by kernel_rfl) ?_)
      refine Xg.ops_nil ?_
      refine Xg.at_false (t := false) (by kernel_rfl) rfl ?_
      refine Xg.at_seq ?_
      refine Xg.at_region ?_
      refine Xg.ops_op (by kernel_rfl) (Xg.opx_pure ((iv a)) rfl (fun _ => by kernel_rfl) ?_)
      refine Xg.ops_op (by kernel_rfl) (Xg.opx_pure (.bool (decide ((a : Int) ≥ ((16384 : Int))))) rfl (fun _ => by kernel_rfl) ?_)
      refine Xg.ops_op (by kernel_rfl) (Xg.opx_pure ((Value.bool (decide (a ≥ (16384 : Int))))) rfl (fun _ => by kernel_rfl) ?_)
      refine Xg.ops_flag (j := 24) (c := (decide (a ≥ (16384 : Int)))) (by kernel_rfl) (fun _ => ?_) (fun xh1 => absurd (of_decide_eq_false xh1) (by omega))
      refine Xg.ops_op (by kernel_rfl) (Xg.opx_pure ((iv a)) rfl (fun _ => by kernel_rfl) ?_)
      refine Xg.ops_op (by kernel_rfl) (Xg.opx_pure (.bool (decide ((a : Int) < ((32768 : Int))))) rfl (fun _ => by kernel_rfl) ?_)
      refine Xg.ops_flag (j := 26) (c := (decide (a < (32768 : Int)))) (by kernel_rfl) (fun _ => ?_) (fun xh1 => absurd (of_decide_eq_false xh1) (by omega))
      refine Xg.ops_op (by kernel_rfl) (Xg.opx_pure ((Value.bool true)) rfl (fun _ => by kernel_rfl) ?_)
      refine Xg.ops_op (by kernel_rfl) (Xg.opx_pure ((Value.bool true)) rfl (fun _ => by kernel_rfl) ?_)
      refine Xg.ops_nil ?_
      refine Xg.at_true (t := true) (by kernel_rfl) rfl ?_
      refine Xg.at_seq ?_
      refine Xg.at_region ?_
      refine Xg.ops_op (by kernel_rfl) (Xg.opx_pure ((pv p 0)) rfl (fun _ => by kernel_rfl) ?_)
      refine Xg.ops_op (by kernel_rfl) (Xg.opx_pure ((pv p 0)) rfl (fun _ => by kernel_rfl) ?_)
      refine Xg.ops_op (by kernel_rfl) (Xg.opx_pure ((pv p 0)) rfl (fun _ => by kernel_rfl) ?_)
      refine Xg.ops_op (by kernel_rfl) (Xg.opx_pure ((pv p 8)) rfl (fun _ => by kernel_rfl) ?_)
      refine Xg.ops_op (by kernel_rfl) (Xg.opx_load (b := p) (off := ((8 : Nat))) 0 (Value.iface (78 : Nat) (pv mb 0)) rfl (by kernel_rfl) (by kernel_rfl) (by kernel_rfl) ?_)
      refine Xg.ops_op (by kernel_rfl) (Xg.opx_call1' [3] [MR3 mb r, CR p h ra rn rc ma mn mc (V3 mb), bts ra rn rc R, bts ma mn mc M] (fun _ => by kernel_rfl) (@hhi ) (by kernel_rfl) (by kernel_rfl) (by kernel_rfl) ?_)
      refine Xg.ops_op (by kernel_rfl) (Xg.opx_pure ((iv a)) rfl (fun _ => by kernel_rfl) ?_)
      refine Xg.ops_op (by kernel_rfl) (Xg.opx_call1' [1, 2] [CR p h ra rn rc ma mn mc (V3 mb), bts ra rn rc R, MR3 mb r, bts ma mn mc M] (fun _ => by kernel_rfl) (@hat ) (by kernel_rfl) (by kernel_rfl) (by kernel_rfl) ?_)
      refine Xg.ops_op (by kernel_rfl) (Xg.opx_pure ((uv (R.getD (highB (3 : Nat) r % h.bk * (16384 : Int) + a % (16384 : Int)).toNat (0 : Int)))) rfl (fun _ => by kernel_rfl) ?_)
      refine Xg.ops_nil ?_
      refine Xg.at_ret_ps (v := (uv (R.getD (highB (3 : Nat) r % h.bk * (16384 : Int) + a % (16384 : Int)).toNat (0 : Int)))) [0, 1, 3, 2] [CR p h ra rn rc ma mn mc (V3 mb), bts ra rn rc R, bts ma mn mc M, MR3 mb r] Go.Proofs.Tryd.func12 (fun _ => by kernel_rfl) (by kernel_rfl) (by kernel_rfl) ?_
      exact ⟨by kernel_rfl, by kernel_rfl⟩)
  rw [if_neg h2]
  have h12 : a < 0 ∨ 32767 < a := by omega
  obtain ⟨ci, hci⟩ : ∃ ci, cellI 3 r mn a = ci := ⟨_, rfl⟩
  rw [hci] at hce hlt ⊢
  by_cases h3 : ci < 0
  · rw [if_pos h3]
    by_cases h4 : a < 0
    · (focus
        refine Xg.spec_of Go.Proofs.Tryd.func12 rfl Go.Proofs.Tryd.ntmps12 fun g F => ?_)
      (focus
        refine Xg.at_seq ?_
        refine Xg.at_region ?_
        refine Xg.ops_op (by kernel_rfl) (Xg.opx_pure ((uv 0)) rfl (fun _ => by kernel_rfl) ?_)
        refine Xg.ops_nil ?_
        refine Xg.at_seq ?_
        refine Xg.at_block ?_
        refine Xg.at_seq ?_
        refine Xg.at_region ?_
        refine Xg.ops_op (by kernel_rfl) (Xg.opx_pure ((iv a)) rfl (fun _ => by kernel_rfl) ?_)
        refine Xg.ops_op (by kernel_rfl) (Xg.opx_pure (.bool (decide ((a : Int) ≥ ((0 : Int))))) rfl (fun _ => by kernel_rfl) ?_)
        refine Xg.ops_op (by kernel_rfl) (Xg.opx_pure ((Value.bool (decide (a ≥ (0 : Int))))) rfl (fun _ => by kernel_rfl) ?_)
        refine Xg.ops_flag (j := 9) (c := (decide (a ≥ (0 : Int)))) (by kernel_rfl) (fun xh1 => absurd (of_decide_eq_true xh1) (by omega)) (fun _ => ?_)
        refine Xg.ops_skip (by kernel_rfl) ?_
        refine Xg.ops_skip (by kernel_rfl) ?_
        refine Xg.ops_op (by kernel_rfl) (Xg.opx_pure ((Value.bool false)) rfl (fun _ => by kernel_rfl) ?_)
        refine Xg.ops_op (by kernel_rfl) (Xg.opx_pure ((Value.bool false)) rfl (fun _ => by kernel_rfl) ?_)
        refine Xg.ops_nil ?_
        refine Xg.at_false (t := false) (by kernel_rfl) rfl ?_
        refine Xg.at_seq ?_
        refine Xg.at_region ?_
        refine Xg.ops_op (by kernel_rfl) (Xg.opx_pure ((iv a)) rfl (fun _ => by kernel_rfl) ?_)
        refine Xg.ops_op (by kernel_rfl) (Xg.opx_pure (.bool (decide ((a : Int) ≥ ((16384 : Int))))) rfl (fun _ => by kernel_rfl) ?_)
        refine Xg.ops_op (by kernel_rfl) (Xg.opx_pure ((Value.bool (decide (a ≥ (16384 : Int))))) rfl (fun _ => by kernel_rfl) ?_)
        refine Xg.ops_flag (j := 24) (c := (decide (a ≥ (16384 : Int)))) (by kernel_rfl) (fun xh1 => absurd (of_decide_eq_true xh1) (by omega)) (fun _ => ?_)
        refine Xg.ops_skip (by kernel_rfl) ?_
        refine Xg.ops_skip (by kernel_rfl) ?_
        refine Xg.ops_op (by kernel_rfl) (Xg.opx_pure ((Value.bool false)) rfl (fun _ => by kernel_rfl) ?_)
        refine Xg.ops_op (by kernel_rfl) (Xg.opx_pure ((Value.bool false)) rfl (fun _ => by kernel_rfl) ?_)
        refine Xg.ops_nil ?_
        refine Xg.at_false (t := false) (by kernel_rfl) rfl ?_
        refine Xg.at_skip ?_
        refine Xg.at_inBlock ?_
        refine Xg.at_seq ?_
        refine Xg.at_region ?_
        refine Xg.ops_op (by kernel_rfl) (Xg.opx_pure ((pv p 0)) rfl (fun _ => by kernel_rfl) ?_)
        refine Xg.ops_op (by kernel_rfl) (Xg.opx_pure ((iv a)) rfl (fun _ => by kernel_rfl) ?_)
        refine Xg.ops_op (by kernel_rfl) (Xg.opx_call1' [0, 1, 2, 3] [CR p h ra rn rc ma mn mc (V3 mb), bts ra rn rc R, bts ma mn mc M, MR3 mb r] (fun _ => by kernel_rfl) (@hce ) (by kernel_rfl) (by kernel_rfl) (by kernel_rfl) ?_)
        refine Xg.ops_op (by kernel_rfl) (Xg.opx_pure ((iv ci)) rfl (fun _ => by kernel_rfl) ?_)
        refine Xg.ops_nil ?_
        refine Xg.at_seq ?_
        refine Xg.at_block ?_
        refine Xg.at_seq ?_
        refine Xg.at_region ?_
        refine Xg.ops_op (by kernel_rfl) (Xg.opx_pure ((iv ci)) rfl (fun _ => by kernel_rfl) ?_)
        refine Xg.ops_op (by kernel_rfl) (Xg.opx_pure (.bool (decide ((ci : Int) < ((0 : Int))))) rfl (fun _ => by kernel_rfl) ?_)
        refine Xg.ops_op (by kernel_rfl) (Xg.opx_pure ((Value.bool (decide (ci < (0 : Int))))) rfl (fun _ => by kernel_rfl) ?_)
        refine Xg.ops_nil ?_
        refine Xg.at_true (t := decide ((ci < (0 : Int)))) (by kernel_rfl) (decide_eq_true (by omega)) ?_
        refine Xg.at_seq ?_
        refine Xg.at_region ?_
        refine Xg.ops_op (by kernel_rfl) (Xg.opx_pure ((uv 255)) rfl (fun _ => by kernel_rfl) ?_)
        refine Xg.ops_nil ?_
        refine Xg.at_ret_ps (v := (uv 255)) [0, 1, 2, 3] [CR p h ra rn rc ma mn mc (V3 mb), bts ra rn rc R, bts ma mn mc M, MR3 mb r] Go.Proofs.Tryd.func12 (fun _ => by kernel_rfl) (by kernel_rfl) (by kernel_rfl) ?_
        exact ⟨by kernel_rfl, by kernel_rfl⟩)
    · (focus
        refine Xg.spec_of Go.Proofs.Tryd.func12 rfl Go.Proofs.Tryd.ntmps12 fun g F => ?_)
      (focus
        refine Xg.at_seq ?_
        refine Xg.at_region ?_
        refine Xg.ops_op (by kernel_rfl) (Xg.opx_pure ((uv 0)) rfl (fun _ => by kernel_rfl) ?_)
        refine Xg.ops_nil ?_
        refine Xg.at_seq ?_
        refine Xg.at_block ?_
        refine Xg.at_seq ?_
        refine Xg.at_region ?_
        refine Xg.ops_op (by kernel_rfl) (Xg.opx_pure ((iv a)) rfl (fun _ => by kernel_rfl) ?_)
        refine Xg.ops_op (by kernel_rfl) (Xg.opx_pure (.bool (decide ((a : Int) ≥ ((0 : Int))))) rfl (fun _ => by kernel_rfl) ?_)
        refine Xg.ops_op (by kernel_rfl) (Xg.opx_pure ((Value.bool (decide (a ≥ (0 : Int))))) rfl (fun _ => by kernel_rfl) ?_)
        refine Xg.ops_flag (j := 9) (c := (decide (a ≥ (0 : Int)))) (by kernel_rfl) (fun _ => ?_) (fun xh1 => absurd (of_decide_eq_false xh1) (by omega))
        refine Xg.ops_op (by kernel_rfl) (Xg.opx_pure ((iv a)) rfl (fun _ => by kernel_rfl) ?_)
        refine Xg.ops_op (by kernel_rfl) (Xg.opx_pure (.bool (decide ((a : Int) < ((16384 : Int))))) rfl (fun _ => by kernel_rfl) ?_)
        refine Xg.ops_flag (j := 11) (c := (decide (a < (16384 : Int)))) (by kernel_rfl) (fun xh1 => absurd (of_decide_eq_true xh1) (by omega)) (fun _ => ?_)
        refine Xg.ops_op (by kernel_rfl) (Xg.opx_pure ((Value.bool false)) rfl (fun _ => by kernel_rfl) ?_)
        refine Xg.ops_op (by kernel_rfl) (Xg.opx_pure ((Value.bool false)) rfl (fun _ => by kernel_rfl) ?_)
        refine Xg.ops_nil ?_
        refine Xg.at_false (t := false) (by kernel_rfl) rfl ?_
        refine Xg.at_seq ?_
        refine Xg.at_region ?_
        refine Xg.ops_op (by kernel_rfl) (Xg.opx_pure ((iv a)) rfl (fun _ => by kernel_rfl) ?_)
        refine Xg.ops_op (by kernel_rfl) (Xg.opx_pure (.bool (decide ((a : Int) ≥ ((16384 : Int))))) rfl (fun _ => by kernel_rfl) ?_)
        refine Xg.ops_op (by kernel_rfl) (Xg.opx_pure ((Value.bool (decide (a ≥ (16384 : Int))))) rfl (fun _ => by kernel_rfl) ?_)
        refine Xg.ops_flag (j := 24) (c := (decide (a ≥ (16384 : Int)))) (by kernel_rfl) (fun _ => ?_) (fun xh1 => absurd (of_decide_eq_false xh1) (by omega))
        refine Xg.ops_op (by kernel_rfl) (Xg.opx_pure ((iv a)) rfl (fun _ => by kernel_rfl) ?_)
        refine Xg.ops_op (by kernel_rfl) (Xg.opx_pure (.bool (decide ((a : Int) < ((32768 : Int))))) rfl (fun _ => by kernel_rfl) ?_)
        refine Xg.ops_flag (j := 26) (c := (decide (a < (32768 : Int)))) (by kernel_rfl) (fun xh1 => absurd (of_decide_eq_true xh1) (by omega)) (fun _ => ?_)
        refine Xg.ops_op (by kernel_rfl) (Xg.opx_pure ((Value.bool false)) rfl (fun _ => by kernel_rfl) ?_)
        refine Xg.ops_op (by kernel_rfl) (Xg.opx_pure ((Value.bool false)) rfl (fun _ => by kernel_rfl) ?_)
        refine Xg.ops_nil ?_
        refine Xg.at_false (t := false) (by kernel_rfl) rfl ?_
        refine Xg.at_skip ?_
        refine Xg.at_inBlock ?_
        refine Xg.at_seq ?_
        refine Xg.at_region ?_
        refine Xg.ops_op (by kernel_rfl) (Xg.opx_pure ((pv p 0)) rfl (fun _ => by kernel_rfl) ?_)
        refine Xg.ops_op (by kernel_rfl) (Xg.opx_pure ((iv a)) rfl (fun _ => by kernel_rfl) ?_)
        refine Xg.ops_op (by kernel_rfl) (Xg.opx_call1' [0, 1, 2, 3] [CR p h ra rn rc ma mn mc (V3 mb), bts ra rn rc R, bts ma mn mc M, MR3 mb r] (fun _ => by kernel_rfl) (@hce ) (by kernel_rfl) (by kernel_rfl) (by kernel_rfl) ?_)
        refine Xg.ops_op (by kernel_rfl) (Xg.opx_pure ((iv ci)) rfl (fun _ => by kernel_rfl) ?_)
        refine Xg.ops_nil ?_
        refine Xg.at_seq ?_
        refine Xg.at_block ?_
        refine Xg.at_seq ?_
        refine Xg.at_region ?_
        refine Xg.ops_op (by kernel_rfl) (Xg.opx_pure ((iv ci)) rfl (fun _ => by kernel_rfl) ?_)
        refine Xg.ops_op (by kernel_rfl) (Xg.opx_pure (.bool (decide ((ci : Int) < ((0 : Int))))) rfl (fun _ => by kernel_rfl) ?_)
        refine Xg.ops_op (by kernel_rfl) (Xg.opx_pure ((Value.bool (decide (ci < (0 : Int))))) rfl (fun _ => by kernel_rfl) ?_)
        refine Xg.ops_nil ?_
        refine Xg.at_true (t := decide ((ci < (0 : Int)))) (by kernel_rfl) (decide_eq_true (by omega)) ?_
        refine Xg.at_seq ?_
        refine Xg.at_region ?_
        refine Xg.ops_op (by kernel_rfl) (Xg.opx_pure ((uv 255)) rfl (fun _ => by kernel_rfl) ?_)
        refine Xg.ops_nil ?_
        refine Xg.at_ret_ps (v := (uv 255)) [0, 1, 2, 3] [CR p h ra rn rc ma mn mc (V3 mb), bts ra rn rc R, bts ma mn mc M, MR3 mb r] Go.Proofs.Tryd.func12 (fun _ => by kernel_rfl) (by kernel_rfl) (by kernel_rfl) ?_
        exact ⟨by kernel_rfl, by kernel_rfl⟩)
  obtain ⟨h5, h6⟩ := hlt h3
  rw [if_neg h3]
  obtain ⟨cn, rfl⟩ : ∃ cn : Nat, ci = (cn : Int) := ⟨ci.toNat, by omega⟩
  rw [if_neg (by decide)]
  rw [Int.toNat_natCast]
  have hbb := isB_get hB (i := cn) (by omega)
  by_cases h4 : a < 0
  · (focus
      refine Xg.spec_of Go.Proofs.Tryd.func12 rfl Go.Proofs.Tryd.ntmps12 fun g F => ?_)
    (focus
      refine Xg.at_seq ?_
      refine Xg.at_region ?_
      refine Xg.ops_op (by kernel_rfl) (Xg.opx_pure ((uv 0)) rfl (fun _ => by kernel_rfl) ?_)
      refine Xg.ops_nil ?_
      refine Xg.at_seq ?_
      refine Xg.at_block ?_
      refine Xg.at_seq ?_
      refine Xg.at_region ?_
      refine Xg.ops_op (by kernel_rfl) (Xg.opx_pure ((iv a)) rfl (fun _ => by kernel_rfl) ?_)
      refine Xg.ops_op (by kernel_rfl) (Xg.opx_pure (.bool (decide ((a : Int) ≥ ((0 : Int))))) rfl (fun _ => by kernel_rfl) ?_)
      refine Xg.ops_op (by kernel_rfl) (Xg.opx_pure ((Value.bool (decide (a ≥ (0 : Int))))) rfl (fun _ => by kernel_rfl) ?_)
      refine Xg.ops_flag (j := 9) (c := (decide (a ≥ (0 : Int)))) (by kernel_rfl) (fun xh1 => absurd (of_decide_eq_true xh1) (by omega)) (fun _ => ?_)
      refine Xg.ops_skip (by kernel_rfl) ?_
      refine Xg.ops_skip (by kernel_rfl) ?_
      refine Xg.ops_op (by kernel_rfl) (Xg.opx_pure ((Value.bool false)) rfl (fun _ => by kernel_rfl) ?_)
      refine Xg.ops_op (by kernel_rfl) (Xg.opx_pure ((Value.bool false)) rfl (fun _ => by kernel_rfl) ?_)
      refine Xg.ops_nil ?_
      refine Xg.at_false (t := false) (by kernel_rfl) rfl ?_
      refine Xg.at_seq ?_
      refine Xg.at_region ?_
      refine Xg.ops_op (by kernel_rfl) (Xg.opx_pure ((iv a)) rfl (fun _ => by kernel_rfl) ?_)
      refine Xg.ops_op (by kernel_rfl) (Xg.opx_pure (.bool (decide ((a : Int) ≥ ((16384 : Int))))) rfl (fun _ => by kernel_rfl) ?_)
      refine Xg.ops_op (by kernel_rfl) (Xg.opx_pure ((Value.bool (decide (a ≥ (16384 : Int))))) rfl (fun _ => by kernel_rfl) ?_)
      refine Xg.ops_flag (j := 24) (c := (decide (a ≥ (16384 : Int)))) (by kernel_rfl) (fun xh1 => absurd (of_decide_eq_true xh1) (by omega)) (fun _ => ?_)
      refine Xg.ops_skip (by kernel_rfl) ?_
      refine Xg.ops_skip (by kernel_rfl) ?_
      refine Xg.ops_op (by kernel_rfl) (Xg.opx_pure ((Value.bool false)) rfl (fun _ => by kernel_rfl) ?_)
      refine Xg.ops_op (by kernel_rfl) (Xg.opx_pure ((Value.bool false)) rfl (fun _ => by kernel_rfl) ?_)
      refine Xg.ops_nil ?_
      refine Xg.at_false (t := false) (by kernel_rfl) rfl ?_
      refine Xg.at_skip ?_
      refine Xg.at_inBlock ?_
      refine Xg.at_seq ?_
      refine Xg.at_region ?_
      refine Xg.ops_op (by kernel_rfl) (Xg.opx_pure ((pv p 0)) rfl (fun _ => by kernel_rfl) ?_)
      refine Xg.ops_op (by kernel_rfl) (Xg.opx_pure ((iv a)) rfl (fun _ => by kernel_rfl) ?_)
      refine Xg.ops_op (by kernel_rfl) (Xg.opx_call1' [0, 1, 2, 3] [CR p h ra rn rc ma mn mc (V3 mb), bts ra rn rc R, bts ma mn mc M, MR3 mb r] (fun _ => by kernel_rfl) (@hce ) (by kernel_rfl) (by kernel_rfl) (by kernel_rfl) ?_)
      refine Xg.ops_op (by kernel_rfl) (Xg.opx_pure ((iv (↑cn : Int))) rfl (fun _ => by kernel_rfl) ?_)
      refine Xg.ops_nil ?_
      refine Xg.at_seq ?_
      refine Xg.at_block ?_
      refine Xg.at_seq ?_
      refine Xg.at_region ?_
      refine Xg.ops_op (by kernel_rfl) (Xg.opx_pure ((iv (↑cn : Int))) rfl (fun _ => by kernel_rfl) ?_)
      refine Xg.ops_op (by kernel_rfl) (Xg.opx_pure (.bool (decide ((((↑cn : Int)) : Int) < ((0 : Int))))) rfl (fun _ => by kernel_rfl) ?_)
      refine Xg.ops_op (by kernel_rfl) (Xg.opx_pure ((Value.bool (decide ((↑cn : Int) < (0 : Int))))) rfl (fun _ => by kernel_rfl) ?_)
      refine Xg.ops_nil ?_
      refine Xg.at_false (t := false) (by kernel_rfl) rfl ?_
      refine Xg.at_seq ?_
      refine Xg.at_region ?_
      refine Xg.ops_op (by kernel_rfl) (Xg.opx_pure ((pv p 0)) rfl (fun _ => by kernel_rfl) ?_)
      refine Xg.ops_op (by kernel_rfl) (Xg.opx_pure ((pv p 0)) rfl (fun _ => by kernel_rfl) ?_)
      refine Xg.ops_op (by kernel_rfl) (Xg.opx_pure ((pv p 0)) rfl (fun _ => by kernel_rfl) ?_)
      refine Xg.ops_op (by kernel_rfl) (Xg.opx_pure ((pv p 2)) rfl (fun _ => by kernel_rfl) ?_)
      refine Xg.ops_op (by kernel_rfl) (Xg.opx_load (b := p) (off := ((2 : Nat))) 0 (iv h.mp) rfl (by kernel_rfl) (by kernel_rfl) (by kernel_rfl) ?_)
      refine Xg.ops_op (by kernel_rfl) (Xg.opx_pure (.bool (decide ((h.mp : Int) = ((2 : Int))))) rfl (fun _ => by kernel_rfl) ?_)
      refine Xg.ops_op (by kernel_rfl) (Xg.opx_pure ((Value.bool (decide (h.mp = (2 : Int))))) rfl (fun _ => by kernel_rfl) ?_)
      refine Xg.ops_nil ?_
      refine Xg.at_false (t := decide ((h.mp = (2 : Int)))) (by kernel_rfl) (decide_eq_false (by omega)) ?_
      refine Xg.at_skip ?_
      refine Xg.at_inBlock ?_
      refine Xg.at_seq ?_
      refine Xg.at_region ?_
      refine Xg.ops_op (by kernel_rfl) (Xg.opx_pure ((pv p 0)) rfl (fun _ => by kernel_rfl) ?_)
      refine Xg.ops_op (by kernel_rfl) (Xg.opx_pure ((pv p 0)) rfl (fun _ => by kernel_rfl) ?_)
      refine Xg.ops_op (by kernel_rfl) (Xg.opx_pure ((pv p 7)) rfl (fun _ => by kernel_rfl) ?_)
      refine Xg.ops_op (by kernel_rfl) (Xg.opx_load (b := p) (off := ((7 : Nat))) 0 (Value.slice ma mn mc) rfl (by kernel_rfl) (by kernel_rfl) (by kernel_rfl) ?_)
      refine Xg.ops_op (by kernel_rfl) (Xg.opx_pure ((iv (↑cn : Int))) rfl (fun _ => by kernel_rfl) ?_)
      refine Xg.ops_op (by kernel_rfl) (Xg.opx_ix_own (elem := 5) (kd := .i64) (e := ((↑cn : Int))) 2 1 cn cn rfl (by kernel_rfl) (by kernel_rfl) (by kernel_rfl) (by kernel_rfl) rfl (by omega) (by omega) ?_)
      refine Xg.ops_op (by kernel_rfl) (Xg.opx_load_own (a := ma) (off := cn) 2 (uv (M.getD cn (0 : Int))) rfl (by kernel_rfl) (Xg.get_ints (by omega)) (by kernel_rfl) ?_)
      refine Xg.ops_op (by kernel_rfl) (Xg.opx_pure ((uv (M.getD cn (0 : Int)))) rfl (fun _ => by kernel_rfl) ?_)
      refine Xg.ops_nil ?_
      refine Xg.at_ret_ps (v := (uv (M.getD cn (0 : Int)))) [0, 1, 2, 3] [CR p h ra rn rc ma mn mc (V3 mb), bts ra rn rc R, bts ma mn mc M, MR3 mb r] Go.Proofs.Tryd.func12 (fun _ => by kernel_rfl) (by kernel_rfl) (by kernel_rfl) ?_
      exact ⟨by kernel_rfl, by kernel_rfl⟩)
  · (focus
      refine Xg.spec_of Go.Proofs.Tryd.func12 rfl Go.Proofs.Tryd.ntmps12 fun g F => ?_)
    (focus
      refine Xg.at_seq ?_
      refine Xg.at_region ?_
      refine Xg.ops_op (by kernel_rfl) (Xg.opx_pure ((uv 0)) rfl (fun _ => by kernel_rfl) ?_)
      refine Xg.ops_nil ?_
      refine Xg.at_seq ?_
      refine Xg.at_block ?_
      refine Xg.at_seq ?_
      refine Xg.at_region ?_
      refine Xg.ops_op (by kernel_rfl) (Xg.opx_pure ((iv a)) rfl (fun _ => by kernel_rfl) ?_)
      refine Xg.ops_op (by kernel_rfl) (Xg.opx_pure (.bool (decide ((a : Int) ≥ ((0 : Int))))) rfl (fun _ => by kernel_rfl) ?_)
      refine Xg.ops_op (by kernel_rfl) (Xg.opx_pure ((Value.bool (decide (a ≥ (0 : Int))))) rfl (fun _ => by kernel_rfl) ?_)
      refine Xg.ops_flag (j := 9) (c := (decide (a ≥ (0 : Int)))) (by kernel_rfl) (fun _ => ?_) (fun xh1 => absurd (of_decide_eq_false xh1) (by omega))
      refine Xg.ops_op (by kernel_rfl) (Xg.opx_pure ((iv a)) rfl (fun _ => by kernel_rfl) ?_)
      refine Xg.ops_op (by kernel_rfl) (Xg.opx_pure (.bool (decide ((a : Int) < ((16384 : Int))))) rfl (fun _ => by kernel_rfl) ?_)
      refine Xg.ops_flag (j := 11) (c := (decide (a < (16384 : Int)))) (by kernel_rfl) (fun xh1 => absurd (of_decide_eq_true xh1) (by omega)) (fun _ => ?_)
      refine Xg.ops_op (by kernel_rfl) (Xg.opx_pure ((Value.bool false)) rfl (fun _ => by kernel_rfl) ?_)
      refine Xg.ops_op (by kernel_rfl) (Xg.opx_pure ((Value.bool false)) rfl (fun _ => by kernel_rfl) ?_)
      refine Xg.ops_nil ?_
      refine Xg.at_false (t := false) (by kernel_rfl) rfl ?_
      refine Xg.at_seq ?_
      refine Xg.at_region ?_
      refine Xg.ops_op (by kernel_rfl) (Xg.opx_pure ((iv a)) rfl (fun _ => by kernel_rfl) ?_)
      refine Xg.ops_op (by kernel_rfl) (Xg.opx_pure (.bool (decide ((a : Int) ≥ ((16384 : Int))))) rfl (fun _ => by kernel_rfl) ?_)
      refine Xg.ops_op (by kernel_rfl) (Xg.opx_pure ((Value.bool (decide (a ≥ (16384 : Int))))) rfl (fun _ => by kernel_rfl) ?_)
      refine Xg.ops_flag (j := 24) (c := (decide (a ≥ (16384 : Int)))) (by kernel_rfl) (fun _ => ?_) (fun xh1 => absurd (of_decide_eq_false xh1) (by omega))
      refine Xg.ops_op (by kernel_rfl) (Xg.opx_pure ((iv a)) rfl (fun _ => by kernel_rfl) ?_)
      refine Xg.ops_op (by kernel_rfl) (Xg.opx_pure (.bool (decide ((a : Int) < ((32768 : Int))))) rfl (fun _ => by kernel_rfl) ?_)
      refine Xg.ops_flag (j := 26) (c := (decide (a < (32768 : Int)))) (by kernel_rfl) (fun xh1 => absurd (of_decide_eq_true xh1) (by omega)) (fun _ => ?_)
      refine Xg.ops_op (by kernel_rfl) (Xg.opx_pure ((Value.bool false)) rfl (fun _ => by kernel_rfl) ?_)
      refine Xg.ops_op (by kernel_rfl) (Xg.opx_pure ((Value.bool false)) rfl (fun _ => by kernel_rfl) ?_)
      refine Xg.ops_nil ?_
      refine Xg.at_false (t := false) (by kernel_rfl) rfl ?_
      refine Xg.at_skip ?_
      refine Xg.at_inBlock ?_
      refine Xg.at_seq ?_
      refine Xg.at_region ?_
      refine Xg.ops_op (by kernel_rfl) (Xg.opx_pure ((pv p 0)) rfl (fun _ => by kernel_rfl) ?_)
      refine Xg.ops_op (by kernel_rfl) (Xg.opx_pure ((iv a)) rfl (fun _ => by kernel_rfl) ?_)
      refine Xg.ops_op (by kernel_rfl) (Xg.opx_call1' [0, 1, 2, 3] [CR p h ra rn rc ma mn mc (V3 mb), bts ra rn rc R, bts ma mn mc M, MR3 mb r] (fun _ => by kernel_rfl) (@hce ) (by kernel_rfl) (by kernel_rfl) (by kernel_rfl) ?_)
      refine Xg.ops_op (by kernel_rfl) (Xg.opx_pure ((iv (↑cn : Int))) rfl (fun _ => by kernel_rfl) ?_)
      refine Xg.ops_nil ?_
      refine Xg.at_seq ?_
      refine Xg.at_block ?_
      refine Xg.at_seq ?_
      refine Xg.at_region ?_
      refine Xg.ops_op (by kernel_rfl) (Xg.opx_pure ((iv (↑cn : Int))) rfl (fun _ => by kernel_rfl) ?_)
      refine Xg.ops_op (by kernel_rfl) (Xg.opx_pure (.bool (decide ((((↑cn : Int)) : Int) < ((0 : Int))))) rfl (fun _ => by kernel_rfl) ?_)
      refine Xg.ops_op (by kernel_rfl) (Xg.opx_pure ((Value.bool (decide ((↑cn : Int) < (0 : Int))))) rfl (fun _ => by kernel_rfl) ?_)
      refine Xg.ops_nil ?_
      refine Xg.at_false (t := false) (by kernel_rfl) rfl ?_
      refine Xg.at_seq ?_
      refine Xg.at_region ?_
      refine Xg.ops_op (by kernel_rfl) (Xg.opx_pure ((pv p 0)) rfl (fun _ => by kernel_rfl) ?_)
      refine Xg.ops_op (by kernel_rfl) (Xg.opx_pure ((pv p 0)) rfl (fun _ => by kernel_rfl) ?_)
      refine Xg.ops_op (by kernel_rfl) (Xg.opx_pure ((pv p 0)) rfl (fun _ => by kernel_rfl) ?_)
      refine Xg.ops_op (by kernel_rfl) (Xg.opx_pure ((pv p 2)) rfl (fun _ => by kernel_rfl) ?_)
      refine Xg.ops_op (by kernel_rfl) (Xg.opx_load (b := p) (off := ((2 : Nat))) 0 (iv h.mp) rfl (by kernel_rfl) (by kernel_rfl) (by kernel_rfl) ?_)
      refine Xg.ops_op (by kernel_rfl) (Xg.opx_pure (.bool (decide ((h.mp : Int) = ((2 : Int))))) rfl (fun _ => by kernel_rfl) ?_)
      refine Xg.ops_op (by kernel_rfl) (Xg.opx_pure ((Value.bool (decide (h.mp = (2 : Int))))) rfl (fun _ => by kernel_rfl) ?_)
      refine Xg.ops_nil ?_
      refine Xg.at_false (t := decide ((h.mp = (2 : Int)))) (by kernel_rfl) (decide_eq_false (by omega)) ?_
      refine Xg.at_skip ?_
      refine Xg.at_inBlock ?_
      refine Xg.at_seq ?_
      refine Xg.at_region ?_
      refine Xg.ops_op (by kernel_rfl) (Xg.opx_pure ((pv p 0)) rfl (fun _ => by kernel_rfl) ?_)
      refine Xg.ops_op (by kernel_rfl) (Xg.opx_pure ((pv p 0)) rfl (fun _ => by kernel_rfl) ?_)
      refine Xg.ops_op (by kernel_rfl) (Xg.opx_pure ((pv p 7)) rfl (fun _ => by kernel_rfl) ?_)
      refine Xg.ops_op (by kernel_rfl) (Xg.opx_load (b := p) (off := ((7 : Nat))) 0 (Value.slice ma mn mc) rfl (by kernel_rfl) (by kernel_rfl) (by kernel_rfl) ?_)
      refine Xg.ops_op (by kernel_rfl) (Xg.opx_pure ((iv (↑cn : Int))) rfl (fun _ => by kernel_rfl) ?_)
      refine Xg.ops_op (by kernel_rfl) (Xg.opx_ix_own (elem := 5) (kd := .i64) (e := ((↑cn : Int))) 2 1 cn cn rfl (by kernel_rfl) (by kernel_rfl) (by kernel_rfl) (by kernel_rfl) rfl (by omega) (by omega) ?_)
      refine Xg.ops_op (by kernel_rfl) (Xg.opx_load_own (a := ma) (off := cn) 2 (uv (M.getD cn (0 : Int))) rfl (by kernel_rfl) (Xg.get_ints (by omega)) (by kernel_rfl) ?_)
      refine Xg.ops_op (by kernel_rfl) (Xg.opx_pure ((uv (M.getD cn (0 : Int)))) rfl (fun _ => by kernel_rfl) ?_)
      refine Xg.ops_nil ?_
      refine Xg.at_ret_ps (v := (uv (M.getD cn (0 : Int)))) [0, 1, 2, 3] [CR p h ra rn rc ma mn mc (V3 mb), bts ra rn rc R, bts ma mn mc M, MR3 mb r] Go.Proofs.Tryd.func12 (fun _ => by kernel_rfl) (by kernel_rfl) (by kernel_rfl) ?_
      exact ⟨by kernel_rfl, by kernel_rfl⟩)
theorem writeR3_d (p mb : Nat) (h : Hd) (r : Rg) (ra : Option Addr) (rn rc : Nat) (ma : Option Addr) (mn mc : Nat) (R M : List Int) (a v : Int) (hwa : 0 ≤ a ∧ a < 32768) (hv : 0 ≤ v ∧ v ≤ 255) : Does Tryd.prog 13 [.pointer (some ⟨p, 0, none⟩), .int .i64 a, .int .u8 v] [CR p h ra rn rc ma mn mc (V3 mb), bts ra rn rc R, bts ma mn mc M, MR3 mb r] (Ret (.tuple #[]) [CR p h ra rn rc ma mn mc (V3 mb), bts ra rn rc R, bts ma mn mc M, MR3 mb (regW3 r a v)]) := by
  have hw := write3_d mb r a v hwa hv
  (focus
    refine Xg.spec_of Go.Proofs.Tryd.func13 rfl Go.Proofs.Tryd.ntmps13 fun g F => ?_)
  (focus
    refine Xg.at_seq ?_
    refine Xg.at_seq ?_
    refine Xg.at_region ?_
    refine Xg.ops_op (by kernel_rfl) (Xg.opx_pure ((iv a)) rfl (fun _ => by kernel_rfl) ?_)
    refine Xg.ops_op (by kernel_rfl) (Xg.opx_pure (.bool (decide ((a : Int) ≥ ((0 : Int))))) rfl (fun _ => by kernel_rfl) ?_)
    refine Xg.ops_op (by kernel_rfl) (Xg.opx_pure ((Value.bool (decide (a ≥ (0 : Int))))) rfl (fun _ => by kernel_rfl) ?_)
    refine Xg.ops_flag (j := 9) (c := (decide (a ≥ (0 : Int)))) (by kernel_rfl) (fun _ => ?_) (fun xh1 => absurd (of_decide_eq_false xh1) (by omega))
    refine Xg.ops_op (by kernel_rfl) (Xg.opx_pure ((iv a)) rfl (fun _ => by kernel_rfl) ?_)
    refine Xg.ops_op (by kernel_rfl) (Xg.opx_pure (.bool (decide ((a : Int) < ((32768 : Int))))) rfl (fun _ => by kernel_rfl) ?_)
    refine Xg.ops_flag (j := 11) (c := (decide (a < (32768 : Int)))) (by kernel_rfl) (fun _ => ?_) (fun xh1 => absurd (of_decide_eq_false xh1) (by omega))
    refine Xg.ops_op (by kernel_rfl) (Xg.opx_pure ((Value.bool true)) rfl (fun _ => by kernel_rfl) ?_)
    refine Xg.ops_nil ?_
    refine Xg.at_true (t := true) (by kernel_rfl) rfl ?_
    refine Xg.at_seq ?_
    refine Xg.at_region ?_
    refine Xg.ops_op (by kernel_rfl) (Xg.opx_pure ((pv p 0)) rfl (fun _ => by kernel_rfl) ?_)
    refine Xg.ops_op (by kernel_rfl) (Xg.opx_pure ((pv p 0)) rfl (fun _ => by kernel_rfl) ?_)
    refine Xg.ops_op (by kernel_rfl) (Xg.opx_pure ((pv p 8)) rfl (fun _ => by kernel_rfl) ?_)
    refine Xg.ops_op (by kernel_rfl) (Xg.opx_load (b := p) (off := ((8 : Nat))) 0 (Value.iface (78 : Nat) (pv mb 0)) rfl (by kernel_rfl) (by kernel_rfl) (by kernel_rfl) ?_)
    refine Xg.ops_op (by kernel_rfl) (Xg.opx_pure ((iv a)) rfl (fun _ => by kernel_rfl) ?_)
    refine Xg.ops_op (by kernel_rfl) (Xg.opx_pure ((uv v)) rfl (fun _ => by kernel_rfl) ?_)
    refine Xg.ops_op (by kernel_rfl) (Xg.opx_call1' [3] [MR3 mb (regW3 r a v), CR p h ra rn rc ma mn mc (V3 mb), bts ra rn rc R, bts ma mn mc M] (fun _ => by kernel_rfl) (@hw ) (by kernel_rfl) (by kernel_rfl) (by kernel_rfl) ?_)
    refine Xg.ops_nil ?_
    refine Xg.at_ret_ps (v := (tu)) [1, 2, 3, 0] [CR p h ra rn rc ma mn mc (V3 mb), bts ra rn rc R, bts ma mn mc M, MR3 mb (regW3 r a v)] Go.Proofs.Tryd.func13 (fun _ => by kernel_rfl) (by kernel_rfl) (by kernel_rfl) ?_
    exact ⟨by kernel_rfl, by kernel_rfl⟩)
theorem writeN3_d (p mb : Nat) (h : Hd) (r : Rg) (ra : Option Addr) (rn rc : Nat) (ma : Option Addr) (mn mc : Nat) (R M : List Int) (a v : Int) (ha : iok a) (hwa : a < 0 ∨ 32767 < a) (hv : 0 ≤ v ∧ v ≤ 255) (hr : r.Ok) (hbk : 2 ≤ h.bk ∧ h.bk ≤ 128) (hR : R.length = rn) (hrn : (rn : Int) = 16384 * h.bk) (hrc : rn ≤ rc) (hM : M.length = mn) (hmc : mn ≤ mc) (hB : isB M) (hmp : h.mp = 3) (hmo : ramOk 3 mn) (hc : cellI 3 r mn a < 0) : Does Tryd.prog 13 [.pointer (some ⟨p, 0, none⟩), .int .i64 a, .int .u8 v] [CR p h ra rn rc ma mn mc (V3 mb), bts ra rn rc R, bts ma mn mc M, MR3 mb r] (Ret (.tuple #[]) [CR p h ra rn rc ma mn mc (V3 mb), bts ra rn rc R, bts ma mn mc M, MR3 mb r]) := by
  have hce := cell3_d p mb h r ra rn rc ma mn mc R M a ha hr hbk hR hrn hrc hM hmc hB hmp hmo
  obtain ⟨ci, hci⟩ : ∃ ci, cellI 3 r mn a = ci := ⟨_, rfl⟩
  rw [hci] at hce hc
  by_cases h4 : a < 0
  · (focus
      refine Xg.spec_of Go.Proofs.Tryd.func13 rfl Go.Proofs.Tryd.ntmps13 fun g F => ?_)
    (focus
      refine Xg.at_seq ?_
      refine Xg.at_seq ?_
      refine Xg.at_region ?_
      refine Xg.ops_op (by kernel_rfl) (Xg.opx_pure ((iv a)) rfl (fun _ => by kernel_rfl) ?_)
      refine Xg.ops_op (by kernel_rfl) (Xg.opx_pure (.bool (decide ((a : Int) ≥ ((0 : Int))))) rfl (fun _ => by kernel_rfl) ?_)
      refine Xg.ops_op (by kernel_rfl) (Xg.opx_pure ((Value.bool (decide (a ≥ (0 : Int))))) rfl (fun _ => by kernel_rfl) ?_)
      refine Xg.ops_flag (j := 9) (c := (decide (a ≥ (0 : Int)))) (by kernel_rfl) (fun xh1 => absurd (of_decide_eq_true xh1) (by omega)) (fun _ => ?_)
      refine Xg.ops_skip (by kernel_rfl) ?_
      refine Xg.ops_skip (by kernel_rfl) ?_
      refine Xg.ops_op (by kernel_rfl) (Xg.opx_pure ((Value.bool false)) rfl (fun _ => by kernel_rfl) ?_)
      refine Xg.ops_nil ?_
      refine Xg.at_false (t := false) (by kernel_rfl) rfl ?_
      refine Xg.at_skip ?_
      refine Xg.at_seq ?_
      refine Xg.at_region ?_
      refine Xg.ops_op (by kernel_rfl) (Xg.opx_pure ((pv p 0)) rfl (fun _ => by kernel_rfl) ?_)
      refine Xg.ops_op (by kernel_rfl) (Xg.opx_pure ((iv a)) rfl (fun _ => by kernel_rfl) ?_)
      refine Xg.ops_op (by kernel_rfl) (Xg.opx_call1' [0, 1, 2, 3] [CR p h ra rn rc ma mn mc (V3 mb), bts ra rn rc R, bts ma mn mc M, MR3 mb r] (fun _ => by kernel_rfl) (@hce ) (by kernel_rfl) (by kernel_rfl) (by kernel_rfl) ?_)
      refine Xg.ops_op (by kernel_rfl) (Xg.opx_pure ((iv ci)) rfl (fun _ => by kernel_rfl) ?_)
      refine Xg.ops_nil ?_
      refine Xg.at_seq ?_
      refine Xg.at_seq ?_
      refine Xg.at_region ?_
      refine Xg.ops_op (by kernel_rfl) (Xg.opx_pure ((iv ci)) rfl (fun _ => by kernel_rfl) ?_)
      refine Xg.ops_op (by kernel_rfl) (Xg.opx_pure (.bool (decide ((ci : Int) < ((0 : Int))))) rfl (fun _ => by kernel_rfl) ?_)
      refine Xg.ops_nil ?_
      refine Xg.at_true (t := decide ((ci < (0 : Int)))) (by kernel_rfl) (decide_eq_true (by omega)) ?_
      refine Xg.at_ret_ps (v := (tu)) [0, 1, 2, 3] [CR p h ra rn rc ma mn mc (V3 mb), bts ra rn rc R, bts ma mn mc M, MR3 mb r] Go.Proofs.Tryd.func13 (fun _ => by kernel_rfl) (by kernel_rfl) (by kernel_rfl) ?_
      exact ⟨by kernel_rfl, by kernel_rfl⟩)
  · (focus
      refine Xg.spec_of Go.Proofs.Tryd.func13 rfl Go.Proofs.Tryd.ntmps13 fun g F => ?_)
    (focus
      refine Xg.at_seq ?_
      refine Xg.at_seq ?_
      refine Xg.at_region ?_
      refine Xg.ops_op (by kernel_rfl) (Xg.opx_pure ((iv a)) rfl (fun _ => by kernel_rfl) ?_)
      refine Xg.ops_op (by kernel_rfl) (Xg.opx_pure (.bool (decide ((a : Int) ≥ ((0 : Int))))) rfl (fun _ => by kernel_rfl) ?_)
      refine Xg.ops_op (by kernel_rfl) (Xg.opx_pure ((Value.bool (decide (a ≥ (0 : Int))))) rfl (fun _ => by kernel_rfl) ?_)
      refine Xg.ops_flag (j := 9) (c := (decide (a ≥ (0 : Int)))) (by kernel_rfl) (fun _ => ?_) (fun xh1 => absurd (of_decide_eq_false xh1) (by omega))
      refine Xg.ops_op (by kernel_rfl) (Xg.opx_pure ((iv a)) rfl (fun _ => by kernel_rfl) ?_)
      refine Xg.ops_op (by kernel_rfl) (Xg.opx_pure (.bool (decide ((a : Int) < ((32768 : Int))))) rfl (fun _ => by kernel_rfl) ?_)
      refine Xg.ops_flag (j := 11) (c := (decide (a < (32768 : Int)))) (by kernel_rfl) (fun xh1 => absurd (of_decide_eq_true xh1) (by omega)) (fun _ => ?_)
      refine Xg.ops_op (by kernel_rfl) (Xg.opx_pure ((Value.bool false)) rfl (fun _ => by kernel_rfl) ?_)
      refine Xg.ops_nil ?_
      refine Xg.at_false (t := false) (by kernel_rfl) rfl ?_
      refine Xg.at_skip ?_
      refine Xg.at_seq ?_
      refine Xg.at_region ?_
      refine Xg.ops_op (by kernel_rfl) (Xg.opx_pure ((pv p 0)) rfl (fun _ => by kernel_rfl) ?_)
      refine Xg.ops_op (by kernel_rfl) (Xg.opx_pure ((iv a)) rfl (fun _ => by kernel_rfl) ?_)
      refine Xg.ops_op (by kernel_rfl) (Xg.opx_call1' [0, 1, 2, 3] [CR p h ra rn rc ma mn mc (V3 mb), bts ra rn rc R, bts ma mn mc M, MR3 mb r] (fun _ => by kernel_rfl) (@hce ) (by kernel_rfl) (by kernel_rfl) (by kernel_rfl) ?_)
      refine Xg.ops_op (by kernel_rfl) (Xg.opx_pure ((iv ci)) rfl (fun _ => by kernel_rfl) ?_)
      refine Xg.ops_nil ?_
      refine Xg.at_seq ?_
      refine Xg.at_seq ?_
      refine Xg.at_region ?_
      refine Xg.ops_op (by kernel_rfl) (Xg.opx_pure ((iv ci)) rfl (fun _ => by kernel_rfl) ?_)
      refine Xg.ops_op (by kernel_rfl) (Xg.opx_pure (.bool (decide ((ci : Int) < ((0 : Int))))) rfl (fun _ => by kernel_rfl) ?_)
      refine Xg.ops_nil ?_
      refine Xg.at_true (t := decide ((ci < (0 : Int)))) (by kernel_rfl) (decide_eq_true (by omega)) ?_
      refine Xg.at_ret_ps (v := (tu)) [0, 1, 2, 3] [CR p h ra rn rc ma mn mc (V3 mb), bts ra rn rc R, bts ma mn mc M, MR3 mb r] Go.Proofs.Tryd.func13 (fun _ => by kernel_rfl) (by kernel_rfl) (by kernel_rfl) ?_
      exact ⟨by kernel_rfl, by kernel_rfl⟩)
theorem writeM3_d (p mb : Nat) (h : Hd) (r : Rg) (ra : Option Addr) (rn rc : Nat) (ma : Option Addr) (mn mc : Nat) (R M : List Int) (a v : Int) (ha : iok a) (hwa : a < 0 ∨ 32767 < a) (hv : 0 ≤ v ∧ v ≤ 255) (hr : r.Ok) (hbk : 2 ≤ h.bk ∧ h.bk ≤ 128) (hR : R.length = rn) (hrn : (rn : Int) = 16384 * h.bk) (hrc : rn ≤ rc) (hM : M.length = mn) (hmc : mn ≤ mc) (hB : isB M) (hmp : h.mp = 3) (hmo : ramOk 3 mn) (hc : ¬ cellI 3 r mn a < 0) : Does Tryd.prog 13 [.pointer (some ⟨p, 0, none⟩), .int .i64 a, .int .u8 v] [CR p h ra rn rc ma mn mc (V3 mb), bts ra rn rc R, bts ma mn mc M, MR3 mb r] (Ret (.tuple #[]) [CR p h ra rn rc ma mn mc (V3 mb), bts ra rn rc R, bts ma mn mc (M.set (cellI 3 r mn a).toNat v), MR3 mb r]) := by
  have hce := cell3_d p mb h r ra rn rc ma mn mc R M a ha hr hbk hR hrn hrc hM hmc hB hmp hmo
  have hlt := cell_lt 3 r mn a hr hmo hc
  obtain ⟨ci, hci⟩ : ∃ ci, cellI 3 r mn a = ci := ⟨_, rfl⟩
  rw [hci] at hce hc hlt ⊢
  obtain ⟨cn, rfl⟩ : ∃ cn : Nat, ci = (cn : Int) := ⟨ci.toNat, by omega⟩
  rw [Int.toNat_natCast]
  have hl9 : cn < M.length := by omega
  by_cases h4 : a < 0
  · (focus
      refine Xg.spec_of Go.Proofs.Tryd.func13 rfl Go.Proofs.Tryd.ntmps13 fun g F => ?_)
    (focus
      refine Xg.at_seq ?_
      refine Xg.at_seq ?_
      refine Xg.at_region ?_
      refine Xg.ops_op (by kernel_rfl) (Xg.opx_pure ((iv a)) rfl (fun _ => by kernel_rfl) ?_)
      refine Xg.ops_op (by kernel_rfl) (Xg.opx_pure (.bool (decide ((a : Int) ≥ ((0 : Int))))) rfl (fun _ => by kernel_rfl) ?_)
      refine Xg.ops_op (by kernel_rfl) (Xg.opx_pure ((Value.bool (decide (a ≥ (0 : Int))))) rfl (fun _ => by kernel_rfl) ?_)
      refine Xg.ops_flag (j := 9) (c := (decide (a ≥ (0 : Int)))) (by kernel_rfl) (fun xh1 => absurd (of_decide_eq_true xh1) (by omega)) (fun _ => ?_)
      refine Xg.ops_skip (by kernel_rfl) ?_
      refine Xg.ops_skip (by kernel_rfl) ?_
      refine Xg.ops_op (by kernel_rfl) (Xg.opx_pure ((Value.bool false)) rfl (fun _ => by kernel_rfl) ?_)
      refine Xg.ops_nil ?_
      refine Xg.at_false (t := false) (by kernel_rfl) rfl ?_
      refine Xg.at_skip ?_
      refine Xg.at_seq ?_
      refine Xg.at_region ?_
      refine Xg.ops_op (by kernel_rfl) (Xg.opx_pure ((pv p 0)) rfl (fun _ => by kernel_rfl) ?_)
      refine Xg.ops_op (by kernel_rfl) (Xg.opx_pure ((iv a)) rfl (fun _ => by kernel_rfl) ?_)
      refine Xg.ops_op (by kernel_rfl) (Xg.opx_call1' [0, 1, 2, 3] [CR p h ra rn rc ma mn mc (V3 mb), bts ra rn rc R, bts ma mn mc M, MR3 mb r] (fun _ => by kernel_rfl) (@hce ) (by kernel_rfl) (by kernel_rfl) (by kernel_rfl) ?_)
      refine Xg.ops_op (by kernel_rfl) (Xg.opx_pure ((iv (↑cn : Int))) rfl (fun _ => by kernel_rfl) ?_)
      refine Xg.ops_nil ?_
      refine Xg.at_seq ?_
      refine Xg.at_seq ?_
      refine Xg.at_region ?_
      refine Xg.ops_op (by kernel_rfl) (Xg.opx_pure ((iv (↑cn : Int))) rfl (fun _ => by kernel_rfl) ?_)
      refine Xg.ops_op (by kernel_rfl) (Xg.opx_pure (.bool (decide ((((↑cn : Int)) : Int) < ((0 : Int))))) rfl (fun _ => by kernel_rfl) ?_)
      refine Xg.ops_nil ?_
      refine Xg.at_false (t := false) (by kernel_rfl) rfl ?_
      refine Xg.at_skip ?_
      refine Xg.at_seq ?_
      refine Xg.at_seq ?_
      refine Xg.at_region ?_
      refine Xg.ops_op (by kernel_rfl) (Xg.opx_pure ((pv p 0)) rfl (fun _ => by kernel_rfl) ?_)
      refine Xg.ops_op (by kernel_rfl) (Xg.opx_pure ((pv p 0)) rfl (fun _ => by kernel_rfl) ?_)
      refine Xg.ops_op (by kernel_rfl) (Xg.opx_pure ((pv p 0)) rfl (fun _ => by kernel_rfl) ?_)
      refine Xg.ops_op (by kernel_rfl) (Xg.opx_pure ((pv p 2)) rfl (fun _ => by kernel_rfl) ?_)
      refine Xg.ops_op (by kernel_rfl) (Xg.opx_load (b := p) (off := ((2 : Nat))) 0 (iv h.mp) rfl (by kernel_rfl) (by kernel_rfl) (by kernel_rfl) ?_)
      refine Xg.ops_op (by kernel_rfl) (Xg.opx_pure (.bool (decide ((h.mp : Int) = ((2 : Int))))) rfl (fun _ => by kernel_rfl) ?_)
      refine Xg.ops_nil ?_
      refine Xg.at_false (t := decide ((h.mp = (2 : Int)))) (by kernel_rfl) (decide_eq_false (by omega)) ?_
      refine Xg.at_skip ?_
      refine Xg.at_region ?_
      refine Xg.ops_op (by kernel_rfl) (Xg.opx_pure ((pv p 0)) rfl (fun _ => by kernel_rfl) ?_)
      refine Xg.ops_op (by kernel_rfl) (Xg.opx_pure ((pv p 0)) rfl (fun _ => by kernel_rfl) ?_)
      refine Xg.ops_op (by kernel_rfl) (Xg.opx_pure ((pv p 7)) rfl (fun _ => by kernel_rfl) ?_)
      refine Xg.ops_op (by kernel_rfl) (Xg.opx_load (b := p) (off := ((7 : Nat))) 0 (Value.slice ma mn mc) rfl (by kernel_rfl) (by kernel_rfl) (by kernel_rfl) ?_)
      refine Xg.ops_op (by kernel_rfl) (Xg.opx_pure ((iv (↑cn : Int))) rfl (fun _ => by kernel_rfl) ?_)
      refine Xg.ops_op (by kernel_rfl) (Xg.opx_pure ((uv v)) rfl (fun _ => by kernel_rfl) ?_)
      refine Xg.ops_op (by kernel_rfl) (Xg.opx_ix_own (elem := 5) (kd := .i64) (e := ((↑cn : Int))) 2 1 cn cn rfl (by kernel_rfl) (by kernel_rfl) (by kernel_rfl) (by kernel_rfl) rfl (by omega) (by omega) ?_)
      refine Xg.ops_op (by kernel_rfl) (Xg.opx_store_own_i (a := ma) (off := cn) (kd := .u8) (xs := M) (e := v) 2 (by kernel_rfl) rfl (by kernel_rfl) (by kernel_rfl) (by first | omega | (simp only [List.length_set]; omega)) ?_)
      refine Xg.ops_nil ?_
      refine Xg.at_end_ps (v := (tu)) [0, 1, 2, 3] [CR p h ra rn rc ma mn mc (V3 mb), bts ra rn rc R, ownS (5 : TypeId) (1 : Nat) (Value.slice ma mn mc) mn (List.map (Value.int IntKind.u8) (M.set cn v)), MR3 mb r] Go.Proofs.Tryd.func13 (fun _ => by kernel_rfl) (by kernel_rfl) (by kernel_rfl) ?_
      exact ⟨by kernel_rfl, by kernel_rfl⟩)
  · (focus
      refine Xg.spec_of Go.Proofs.Tryd.func13 rfl Go.Proofs.Tryd.ntmps13 fun g F => ?_)
    (focus
      refine Xg.at_seq ?_
      refine Xg.at_seq ?_
      refine Xg.at_region ?_
      refine Xg.ops_op (by kernel_rfl) (Xg.opx_pure ((iv a)) rfl (fun _ => by kernel_rfl) ?_)
      refine Xg.ops_op (by kernel_rfl) (Xg.opx_pure (.bool (decide ((a : Int) ≥ ((0 : Int))))) rfl (fun _ => by kernel_rfl) ?_)
      refine Xg.ops_op (by kernel_rfl) (Xg.opx_pure ((Value.bool (decide (a ≥ (0 : Int))))) rfl (fun _ => by kernel_rfl) ?_)
      refine Xg.ops_flag (j := 9) (c := (decide (a ≥ (0 : Int)))) (by kernel_rfl) (fun _ => ?_) (fun xh1 => absurd (of_decide_eq_false xh1) (by omega))
      refine Xg.ops_op (by kernel_rfl) (Xg.opx_pure ((iv a)) rfl (fun _ => by kernel_rfl) ?_)
      refine Xg.ops_op (by kernel_rfl) (Xg.opx_pure (.bool (decide ((a : Int) < ((32768 : Int))))) rfl (fun _ => by kernel_rfl) ?_)
      refine Xg.ops_flag (j := 11) (c := (decide (a < (32768 : Int)))) (by kernel_rfl) (fun xh1 => absurd (of_decide_eq_true xh1) (by omega)) (fun _ => ?_)
      refine Xg.ops_op (by kernel_rfl) (Xg.opx_pure ((Value.bool false)) rfl (fun _ => by kernel_rfl) ?_)
      refine Xg.ops_nil ?_
      refine Xg.at_false (t := false) (by kernel_rfl) rfl ?_
      refine Xg.at_skip ?_
      refine Xg.at_seq ?_
      refine Xg.at_region ?_
      refine Xg.ops_op (by kernel_rfl) (Xg.opx_pure ((pv p 0)) rfl (fun _ => by kernel_rfl) ?_)
      refine Xg.ops_op (by kernel_rfl) (Xg.opx_pure ((iv a)) rfl (fun _ => by kernel_rfl) ?_)
      refine Xg.ops_op (by kernel_rfl) (Xg.opx_call1' [0, 1, 2, 3] [CR p h ra rn rc ma mn mc (V3 mb), bts ra rn rc R, bts ma mn mc M, MR3 mb r] (fun _ => by kernel_rfl) (@hce ) (by kernel_rfl) (by kernel_rfl) (by kernel_rfl) ?_)
      refine Xg.ops_op (by kernel_rfl) (Xg.opx_pure ((iv (↑cn : Int))) rfl (fun _ => by kernel_rfl) ?_)
      refine Xg.ops_nil ?_
      refine Xg.at_seq ?_
      refine Xg.at_seq ?_
      refine Xg.at_region ?_
      refine Xg.ops_op (by kernel_rfl) (Xg.opx_pure ((iv (↑cn : Int))) rfl (fun _ => by kernel_rfl) ?_)
      refine Xg.ops_op (by kernel_rfl) (Xg.opx_pure (.bool (decide ((((↑cn : Int)) : Int) < ((0 : Int))))) rfl (fun _ => by kernel_rfl) ?_)
      refine Xg.ops_nil ?_
      refine Xg.at_false (t := false) (by kernel_rfl) rfl ?_
      refine Xg.at_skip ?_
      refine Xg.at_seq ?_
      refine Xg.at_seq ?_
      refine Xg.at_region ?_
      refine Xg.ops_op (by kernel_rfl) (Xg.opx_pure ((pv p 0)) rfl (fun _ => by kernel_rfl) ?_)
      refine Xg.ops_op (by kernel_rfl) (Xg.opx_pure ((pv p 0)) rfl (fun _ => by kernel_rfl) ?_)
      refine Xg.ops_op (by kernel_rfl) (Xg.opx_pure ((pv p 0)) rfl (fun _ => by kernel_rfl) ?_)
      refine Xg.ops_op (by kernel_rfl) (Xg.opx_pure ((pv p 2)) rfl (fun _ => by kernel_rfl) ?_)
      refine Xg.ops_op (by kernel_rfl) (Xg.opx_load (b := p) (off := ((2 : Nat))) 0 (iv h.mp) rfl (by kernel_rfl) (by kernel_rfl) (by kernel_rfl) ?_)
      refine Xg.ops_op (by kernel_rfl) (Xg.opx_pure (.bool (decide ((h.mp : Int) = ((2 : Int))))) rfl (fun _ => by kernel_rfl) ?_)
      refine Xg.ops_nil ?_
      refine Xg.at_false (t := decide ((h.mp = (2 : Int)))) (by kernel_rfl) (decide_eq_false (by omega)) ?_
      refine Xg.at_skip ?_
      refine Xg.at_region ?_
      refine Xg.ops_op (by kernel_rfl) (Xg.opx_pure ((pv p 0)) rfl (fun _ => by kernel_rfl) ?_)
      refine Xg.ops_op (by kernel_rfl) (Xg.opx_pure ((pv p 0)) rfl (fun _ => by kernel_rfl) ?_)
      refine Xg.ops_op (by kernel_rfl) (Xg.opx_pure ((pv p 7)) rfl (fun _ => by kernel_rfl) ?_)
      refine Xg.ops_op (by kernel_rfl) (Xg.opx_load (b := p) (off := ((7 : Nat))) 0 (Value.slice ma mn mc) rfl (by kernel_rfl) (by kernel_rfl) (by kernel_rfl) ?_)
      refine Xg.ops_op (by kernel_rfl) (Xg.opx_pure ((iv (↑cn : Int))) rfl (fun _ => by kernel_rfl) ?_)
      refine Xg.ops_op (by kernel_rfl) (Xg.opx_pure ((uv v)) rfl (fun _ => by kernel_rfl) ?_)
      refine Xg.ops_op (by kernel_rfl) (Xg.opx_ix_own (elem := 5) (kd := .i64) (e := ((↑cn : Int))) 2 1 cn cn rfl (by kernel_rfl) (by kernel_rfl) (by kernel_rfl) (by kernel_rfl) rfl (by omega) (by omega) ?_)
      refine Xg.ops_op (by kernel_rfl) (Xg.opx_store_own_i (a := ma) (off := cn) (kd := .u8) (xs := M) (e := v) 2 (by kernel_rfl) rfl (by kernel_rfl) (by kernel_rfl) (by first | omega | (simp only [List.length_set]; omega)) ?_)
      refine Xg.ops_nil ?_
      refine Xg.at_end_ps (v := (tu)) [0, 1, 2, 3] [CR p h ra rn rc ma mn mc (V3 mb), bts ra rn rc R, ownS (5 : TypeId) (1 : Nat) (Value.slice ma mn mc) mn (List.map (Value.int IntKind.u8) (M.set cn v)), MR3 mb r] Go.Proofs.Tryd.func13 (fun _ => by kernel_rfl) (by kernel_rfl) (by kernel_rfl) ?_
      exact ⟨by kernel_rfl, by kernel_rfl⟩)
theorem read5_d (p mb : Nat) (h : Hd) (r : Rg) (ra : Option Addr) (rn rc : Nat) (ma : Option Addr) (mn mc : Nat) (R M : List Int) (a : Int) (ha : iok a) (hr : r.Ok) (hbk : 2 ≤ h.bk ∧ h.bk ≤ 128) (hR : R.length = rn) (hrn : (rn : Int) = 16384 * h.bk) (hrc : rn ≤ rc) (hM : M.length = mn) (hmc : mn ≤ mc) (hB : isB M) (hmp : h.mp = 5) (hmo : ramOk 5 mn) : Does Tryd.prog 12 [.pointer (some ⟨p, 0, none⟩), .int .i64 a] [CR p h ra rn rc ma mn mc (V5 mb), bts ra rn rc R, bts ma mn mc M, MR5 mb r] (Ret (.int .u8 (readI 5 r h.bk R M a)) [CR p h ra rn rc ma mn mc (V5 mb), bts ra rn rc R, bts ma mn mc M, MR5 mb r]) := by
  have hlo := low5_d mb r
  have hhi := high5_d mb r hr
  have hce := cell5_d p mb h r ra rn rc ma mn mc R M a ha hr hbk hR hrn hrc hM hmc hB hmp hmo
  obtain ⟨hb1, hb2, hb3, hb4⟩ := bank_ok 5 r hr
  have hlt := cell_lt 5 r mn a hr hmo
  unfold readI
  rw [hM]
  by_cases h1 : 0 ≤ a ∧ a < 16384
  · have hat := at_d p h ra rn rc ma mn mc (V5 mb) R (lowB 5 r) a ⟨hb1, hb2⟩ ⟨by omega, by omega⟩ ⟨by omega, by omega⟩ hR hrn hrc
    rw [if_pos h1]
    (focus
      refine Xg.spec_of Go.Proofs.Tryd.func12 rfl Go.Proofs.Tryd.ntmps12 fun g F => ?_)
    (focus
      refine Xg.at_seq ?_
      refine Xg.at_region ?_
      refine Xg.ops_op (by kernel_rfl) (Xg.opx_pure ((uv 0)) rfl (fun _ => by kernel_rfl) ?_)
      refine Xg.ops_nil ?_
      refine Xg.at_seq ?_
      refine Xg.at_block ?_
      refine Xg.at_seq ?_
      refine Xg.at_region ?_
      refine Xg.ops_op (by kernel_rfl) (Xg.opx_pure ((iv a)) rfl (fun _ => by kernel_rfl) ?_)
      refine Xg.ops_op (by kernel_rfl) (Xg.opx_pure (.bool (decide ((a : Int) ≥ ((0 : Int))))) rfl (fun _ => by kernel_rfl) ?_)
      refine Xg.ops_op (by kernel_rfl) (Xg.opx_pure ((Value.bool (decide (a ≥ (0 : Int))))) rfl (fun _ => by kernel_rfl) ?_)
      refine Xg.ops_flag (j := 9) (c := (decide (a ≥ (0 : Int)))) (by kernel_rfl) (fun _ => ?_) (fun xh1 => absurd (of_decide_eq_false xh1) (by omega))
      refine Xg.ops_op (by kernel_rfl) (Xg.opx_pure ((iv a)) rfl (fun _ => by kernel_rfl) ?_)
      refine Xg.ops_op (by kernel_rfl) (Xg.opx_pure (.bool (decide ((a : Int) < ((16384 : Int))))) rfl (fun _ => by kernel_rfl) ?_)
      refine Xg.ops_flag (j := 11) (c := (decide (a < (16384 : Int)))) (by kernel_rfl) (fun _ => ?_) (fun xh1 => absurd (of_decide_eq_false xh1) (by omega))
      refine Xg.ops_op (by kernel_rfl) (Xg.opx_pure ((Value.bool true)) rfl (fun _ => by kernel_rfl) ?_)
      refine Xg.ops_op (by kernel_rfl) (Xg.opx_pure ((Value.bool true)) rfl (fun _ => by kernel_rfl) ?_)
      refine Xg.ops_nil ?_
      refine Xg.at_true (t := true) (by kernel_rfl) rfl ?_
      refine Xg.at_seq ?_
      refine Xg.at_region ?_
      refine Xg.ops_op (by kernel_rfl) (Xg.opx_pure ((pv p 0)) rfl (fun _ => by kernel_rfl) ?_)
      refine Xg.ops_op (by kernel_rfl) (Xg.opx_pure ((pv p 0)) rfl (fun _ => by kernel_rfl) ?_)
      refine Xg.ops_op (by kernel_rfl) (Xg.opx_pure ((pv p 0)) rfl (fun _ => by kernel_rfl) ?_)
      refine Xg.ops_op (by kernel_rfl) (Xg.opx_pure ((pv p 8)) rfl (fun _ => by kernel_rfl) ?_)
      refine Xg.ops_op (by kernel_rfl) (Xg.opx_load (b := p) (off := ((8 : Nat))) 0 (Value.iface (80 : Nat) (pv mb 0)) rfl (by kernel_rfl) (by kernel_rfl) (by kernel_rfl) ?_)
      refine Xg.ops_op (by kernel_rfl) (Xg.opx_call1' [3] [MR5 mb r, CR p h ra rn rc ma mn mc (V5 mb), bts ra rn rc R, bts ma mn mc M] (fun _ => by kernel_rfl) (@hlo ) (by kernel_rfl) (by kernel_rfl) (by kernel_rfl) ?_)
      refine Xg.ops_op (by kernel_rfl) (Xg.opx_pure ((iv a)) rfl (fun _ => by kernel_rfl) ?_)
      refine Xg.ops_op (by kernel_rfl) (Xg.opx_call1' [1, 2] [CR p h ra rn rc ma mn mc (V5 mb), bts ra rn rc R, MR5 mb r, bts ma mn mc M] (fun _ => by kernel_rfl) (@hat ) (by kernel_rfl) (by kernel_rfl) (by kernel_rfl) ?_)
      refine Xg.ops_op (by kernel_rfl) (Xg.opx_pure ((uv (R.getD (lowB (5 : Nat) r % h.bk * (16384 : Int) + a % (16384 : Int)).toNat (0 : Int)))) rfl (fun _ => by kernel_rfl) ?_)
      refine Xg.ops_nil ?_
      refine Xg.at_ret_ps (v := (uv (R.getD (lowB (5 : Nat) r % h.bk * (16384 : Int) + a % (16384 : Int)).toNat (0 : Int)))) [0, 1, 3, 2] [CR p h ra rn rc ma mn mc (V5 mb), bts ra rn rc R, bts ma mn mc M, MR5 mb r] Go.Proofs.Tryd.func12 (fun _ => by kernel_rfl) (by kernel_rfl) (by kernel_rfl) ?_
      exact ⟨by kernel_rfl, by kernel_rfl⟩)
  rw [if_neg h1]
  by_cases h2 : 16384 ≤ a ∧ a < 32768
  · have hat := at_d p h ra rn rc ma mn mc (V5 mb) R (highB 5 r) a ⟨hb3, hb4⟩ ⟨by omega, by omega⟩ ⟨by omega, by omega⟩ hR hrn hrc
    rw [if_pos h2]
    (focus
      refine Xg.spec_of Go.Proofs.Tryd.func12 rfl Go.Proofs.Tryd.ntmps12 fun g F => ?_)
    (focus
      refine Xg.at_seq ?_
      refine Xg.at_region ?_
      refine Xg.ops_op (by kernel_rfl) (Xg.opx_pure ((uv 0)) rfl (fun _ => by kernel_rfl) ?_)
      refine Xg.ops_nil ?_
      refine Xg.at_seq ?_
      refine Xg.at_block ?_
      refine Xg.at_seq ?_
      refine Xg.at_region ?_
      refine Xg.ops_op (by kernel_rfl) (Xg.opx_pure ((iv a)) rfl (fun _ => by kernel_rfl) ?_)
      refine Xg.ops_op (by kernel_rfl) (Xg.opx_pure (.bool (decide ((a : Int) ≥ ((0 : Int))))) rfl (fun _ => by kernel_rfl) ?_)
      refine Xg.ops_op (by kernel_rfl) (Xg.opx_pure ((Value.bool (decide (a ≥ (0 : Int))))) rfl (fun _ => by kernel_rfl) ?_)
      refine Xg.ops_flag (j := 9) (c := (decide (a ≥ (0 : Int)))) (by kernel_rfl) (fun _ => ?_) (fun xh1 => absurd (of_decide_eq_false xh1) (by omega))
      refine Xg.ops_op (by kernel_rfl) (Xg.opx_pure ((iv a)) rfl (fun _ => by kernel_rfl) ?_)
      refine Xg.ops_op (by kernel_rfl) (Xg.opx_pure (.bool (decide ((a : Int) < ((16384 : Int))))) rfl (fun _ => by kernel_rfl) ?_)
      refine Xg.ops_flag (j := 11) (c := (decide (a < (16384 : Int)))) (by kernel_rfl) (fun xh1 => absurd (of_decide_eq_true xh1) (by omega)) (fun _ => ?_)
      refine Xg.ops_op (by kernel_rfl) (Xg.opx_pure ((Value.bool false)) rfl (fun _ => by kernel_rfl) ?_)
      refine Xg.ops_op (by kernel_rfl) (Xg.opx_pure ((Value.bool false)) rfl (fun _ => by kernel_rfl) ?_)
      refine Xg.ops_nil ?_
      refine Xg.at_false (t := false) (by kernel_rfl) rfl ?_
      refine Xg.at_seq ?_
      refine Xg.at_region ?_
      refine Xg.ops_op (by kernel_rfl) (Xg.opx_pure ((iv a)) rfl (fun _ => by kernel_rfl) ?_)
      refine Xg.ops_op (by kernel_rfl) (Xg.opx_pure (.bool (decide ((a : Int) ≥ ((16384 : Int))))) rfl (fun _ => by kernel_rfl) ?_)
      refine Xg.ops_op (by kernel_rfl) (Xg.opx_pure ((Value.bool (decide (a ≥ (16384 : Int))))) rfl (fun _ => by kernel_rfl) ?_)
      refine Xg.ops_flag (j := 24) (c := (decide (a ≥ (16384 : Int)))) (by kernel_rfl) (fun _ => ?_) (fun xh1 => absurd (of_decide_eq_false xh1) (by omega))
      refine Xg.ops_op (by kernel_rfl) (Xg.opx_pure ((iv a)) rfl (fun _ => by kernel_rfl) ?_)
      refine Xg.ops_op (by kernel_rfl) (Xg.opx_pure (.bool (decide ((a : Int) < ((32768 : Int))))) rfl (fun _ => by kernel_rfl) ?_)
      refine Xg.ops_flag (j := 26) (c := (decide (a < (32768 : Int)))) (by kernel_rfl) (fun _ => ?_) (fun xh1 => absurd (of_decide_eq_false xh1) (by omega))
      refine Xg.ops_op (by kernel_rfl) (Xg.opx_pure ((Value.bool true)) rfl (fun _ => by kernel_rfl) ?_)
      refine Xg.ops_op (by kernel_rfl) (Xg.opx_pure ((Value.bool true)) rfl (fun _ => by kernel_rfl) ?_)
      refine Xg.ops_nil ?_
      refine Xg.at_true (t := true) (by kernel_rfl) rfl ?_
      refine Xg.at_seq ?_
      refine Xg.at_region ?_
      refine Xg.ops_op (by kernel_rfl) (Xg.opx_pure ((pv p 0)) rfl (fun _ => by kernel_rfl) ?_)
      refine Xg.ops_op (by kernel_rfl) (Xg.opx_pure ((pv p 0)) rfl (fun _ => by kernel_rfl) ?_)
      refine Xg.ops_op (by kernel_rfl) (Xg.opx_pure ((pv p 0)) rfl (fun _ => by kernel_rfl) ?_)
      refine Xg.ops_op (by kernel_rfl) (Xg.opx_pure ((pv p 8)) rfl (fun _ => by kernel_rfl) ?_)
      refine Xg.ops_op (by kernel_rfl) (Xg.opx_load (b := p) (off := ((8 : Nat))) 0 (Value.iface (80 : Nat) (pv mb 0)) rfl (by kernel_rfl) (by kernel_rfl) (by kernel_rfl) ?_)
      refine Xg.ops_op (by kernel_rfl) (Xg.opx_call1' [3] [MR5 mb r, CR p h ra rn rc ma mn mc (V5 mb), bts ra rn rc R, bts ma mn mc M] (fun _ => by kernel_rfl) (@hhi ) (by kernel_rfl) (by kernel_rfl) (by kernel_rfl) ?_)
      refine Xg.ops_op (by kernel_rfl) (Xg.opx_pure ((iv a)) rfl (fun _ => by kernel_rfl) ?_)
      refine Xg.ops_op (by kernel_rfl) (Xg.opx_call1' [1, 2] [CR p h ra rn rc ma mn mc (V5 mb), bts ra rn rc R, MR5 mb r, bts ma mn mc M] (fun _ => by kernel_rfl) (@hat ) (by kernel_rfl) (by kernel_rfl) (by kernel_rfl) ?_)
      refine Xg.ops_op (by kernel_rfl) (Xg.opx_pure ((uv (R.getD (highB (5 : Nat) r % h.bk * (16384 : Int) + a % (16384 : Int)).toNat (0 : Int)))) rfl (fun _ => by kernel_rfl) ?_)
      refine Xg.ops_nil ?_
      refine Xg.at_ret_ps (v := (uv (R.getD (highB (5 : Nat) r % h.bk * (16384 : Int) + a % (16384 : Int)).toNat (0 : Int)))) [0, 1, 3, 2] [CR p h ra rn rc ma mn mc (V5 mb), bts ra rn rc R, bts ma mn mc M, MR5 mb r] Go.Proofs.Tryd.func12 (fun _ => by kernel_rfl) (by kernel_rfl) (by kernel_rfl) ?_
      exact ⟨by kernel_rfl, by kernel_rfl⟩)
  rw [if_neg h2]
  have h12 : a < 0 ∨ 32767 < a := by omega
  obtain ⟨ci, hci⟩ : ∃ ci, cellI 5 r mn a = ci := ⟨_, rfl⟩
  rw [hci] at hce hlt ⊢
  by_cases h3 : ci < 0
  · rw [if_pos h3]
    by_cases h4 : a < 0
    · (focus
        refine Xg.spec_of Go.Proofs.Tryd.func12 rfl Go.Proofs.Tryd.ntmps12 fun g F => ?_)
      (focus
        refine Xg.at_seq ?_
        refine Xg.at_region ?_
        refine Xg.ops_op (by kernel_rfl) (Xg.opx_pure ((uv 0)) rfl (fun _ => by kernel_rfl) ?_)
        refine Xg.ops_nil ?_
        refine Xg.at_seq ?_
        refine Xg.at_block ?_
        refine Xg.at_seq ?_
        refine Xg.at_region ?_
        refine Xg.ops_op (by kernel_rfl) (Xg.opx_pure ((iv a)) rfl (fun _ => by kernel_rfl) ?_)
        refine Xg.ops_op (by kernel_rfl) (Xg.opx_pure (.bool (decide ((a : Int) ≥ ((0 : Int))))) rfl (fun _ => by kernel_rfl) ?_)
        refine Xg.ops_op (by kernel_rfl) (Xg.opx_pure ((Value.bool (decide (a ≥ (0 : Int))))) rfl (fun _ => by kernel_rfl) ?_)
        refine Xg.ops_flag (j := 9) (c := (decide (a ≥ (0 : Int)))) (by kernel_rfl) (fun xh1 => absurd (of_decide_eq_true xh1) (by omega)) (fun _ => ?_)
        refine Xg.ops_skip (by kernel_rfl) ?_
        refine Xg.ops_skip (by kernel_rfl) ?_
        refine Xg.ops_op (by kernel_rfl) (Xg.opx_pure ((Value.bool false)) rfl (fun _ => by kernel_rfl) ?_)
        refine Xg.ops_op (by kernel_rfl) (Xg.opx_pure ((Value.bool false)) rfl (fun _ => by kernel_rfl) ?_)
        refine Xg.ops_nil ?_
        refine Xg.at_false (t := false) (by kernel_rfl) rfl ?_
        refine Xg.at_seq ?_
        refine Xg.at_region ?_
        refine Xg.ops_op (by kernel_rfl) (Xg.opx_pure ((iv a)) rfl (fun _ => by kernel_rfl) ?_)
        refine Xg.ops_op (by kernel_rfl) (Xg.opx_pure (.bool (decide ((a : Int) ≥ ((16384 : Int))))) rfl (fun _ => by kernel_rfl) ?_)
        refine Xg.ops_op (by kernel_rfl) (Xg.opx_pure ((Value.bool (decide (a ≥ (16384 : Int))))) rfl (fun _ => by kernel_rfl) ?_)
        refine Xg.ops_flag (j := 24) (c := (decide (a ≥ (16384 : Int)))) (by kernel_rfl) (fun xh1 => absurd (of_decide_eq_true xh1) (by omega)) (fun _ => ?_)
        refine Xg.ops_skip (by kernel_rfl) ?_
        refine Xg.ops_skip (by kernel_rfl) ?_
        refine Xg.ops_op (by kernel_rfl) (Xg.opx_pure ((Value.bool false)) rfl (fun _ => by kernel_rfl) ?_)
        refine Xg.ops_op (by kernel_rfl) (Xg.opx_pure ((Value.bool false)) rfl (fun _ => by kernel_rfl) ?_)
        refine Xg.ops_nil ?_
        refine Xg.at_false (t := false) (by kernel_rfl) rfl ?_
        refine Xg.at_skip ?_
        refine Xg.at_inBlock ?_
        refine Xg.at_seq ?_
        refine Xg.at_region ?_
        refine Xg.ops_op (by kernel_rfl) (Xg.opx_pure ((pv p 0)) rfl (fun _ => by kernel_rfl) ?_)
        refine Xg.ops_op (by kernel_rfl) (Xg.opx_pure ((iv a)) rfl (fun _ => by kernel_rfl) ?_)
        refine Xg.ops_op (by kernel_rfl) (Xg.opx_call1' [0, 1, 2, 3] [CR p h ra rn rc ma mn mc (V5 mb), bts ra rn rc R, bts ma mn mc M, MR5 mb r] (fun _ => by kernel_rfl) (@hce ) (by kernel_rfl) (by kernel_rfl) (by kernel_rfl) ?_)
        refine Xg.ops_op (by kernel_rfl) (Xg.opx_pure ((iv ci)) rfl (fun _ => by kernel_rfl) ?_)
        refine Xg.ops_nil ?_
        refine Xg.at_seq ?_
        refine Xg.at_block ?_
        refine Xg.at_seq ?_
        refine Xg.at_region ?_
        refine Xg.ops_op (by kernel_rfl) (Xg.opx_pure ((iv ci)) rfl (fun _ => by kernel_rfl) ?_)
        refine Xg.ops_op (by kernel_rfl) (Xg.opx_pure (.bool (decide ((ci : Int) < ((0 : Int))))) rfl (fun _ => by kernel_rfl) ?_)
        refine Xg.ops_op (by kernel_rfl) (Xg.opx_pure ((Value.bool (decide (ci < (0 : Int))))) rfl (fun _ => by kernel_rfl) ?_)
        refine Xg.ops_nil ?_
        refine Xg.at_true (t := decide ((ci < (0 : Int)))) (by kernel_rfl) (decide_eq_true (by omega)) ?_
        refine Xg.at_seq ?_
        refine Xg.at_region ?_
        refine Xg.ops_op (by kernel_rfl) (Xg.opx_pure ((uv 255)) rfl (fun _ => by kernel_rfl) ?_)
        refine Xg.ops_nil ?_
        refine Xg.at_ret_ps (v := (uv 255)) [0, 1, 2, 3] [CR p h ra rn rc ma mn mc (V5 mb), bts ra rn rc R, bts ma mn mc M, MR5 mb r] Go.Proofs.Tryd.func12 (fun _ => by kernel_rfl) (by kernel_rfl) (by kernel_rfl) ?_
        exact ⟨by kernel_rfl, by kernel_rfl⟩)
    · (focus
        refine Xg.spec_of Go.Proofs.Tryd.func12 rfl Go.Proofs.Tryd.ntmps12 fun g F => ?_)
      (focus
        refine Xg.at_seq ?_
        refine Xg.at_region ?_
        refine Xg.ops_op (by kernel_rfl) (Xg.opx_pure ((uv 0)) rfl (fun _ => by kernel_rfl) ?_)
        refine Xg.ops_nil ?_
        refine Xg.at_seq ?_
        refine Xg.at_block ?_
        refine Xg.at_seq ?_
        refine Xg.at_region ?_
        refine Xg.ops_op (by kernel_rfl) (Xg.opx_pure ((iv a)) rfl (fun _ => by kernel_rfl) ?_)
        refine Xg.ops_op (by kernel_rfl) (Xg.opx_pure (.bool (decide ((a : Int) ≥ ((0 : Int))))) rfl (fun _ => by kernel_rfl) ?_)
        refine Xg.ops_op (by kernel_rfl) (Xg.opx_pure ((Value.bool (decide (a ≥ (0 : Int))))) rfl (fun _ => by kernel_rfl) ?_)
        refine Xg.ops_flag (j := 9) (c := (decide (a ≥ (0 : Int)))) (by kernel_rfl) (fun _ => ?_) (fun xh1 => absurd (of_decide_eq_false xh1) (by omega))
        refine Xg.ops_op (by kernel_rfl) (Xg.opx_pure ((iv a)) rfl (fun _ => by kernel_rfl) ?_)
        refine Xg.ops_op (by kernel_rfl) (Xg.opx_pure (.bool (decide ((a : Int) < ((16384 : Int))))) rfl (fun _ => by kernel_rfl) ?_)
        refine Xg.ops_flag (j := 11) (c := (decide (a < (16384 : Int)))) (by kernel_rfl) (fun xh1 => absurd (of_decide_eq_true xh1) (by omega)) (fun _ => ?_)
        refine Xg.ops_op (by kernel_rfl) (Xg.opx_pure ((Value.bool false)) rfl (fun _ => by kernel_rfl) ?_)
        refine Xg.ops_op (by kernel_rfl) (Xg.opx_pure ((Value.bool false)) rfl (fun _ => by kernel_rfl) ?_)
        refine Xg.ops_nil ?_
        refine Xg.at_false (t := false) (by kernel_rfl) rfl ?_
        refine Xg.at_seq ?_
        refine Xg.at_region ?_
        refine Xg.ops_op (by kernel_rfl) (Xg.opx_pure ((iv a)) rfl (fun _ => by kernel_rfl) ?_)
        refine Xg.ops_op (by kernel_rfl) (Xg.opx_pure (.bool (decide ((a : Int) ≥ ((16384 : Int))))) rfl (fun _ => by kernel_rfl) ?_)
        refine Xg.ops_op (by kernel_rfl) (Xg.opx_pure ((Value.bool (decide (a ≥ (16384 : Int))))) rfl (fun _ => by kernel_rfl) ?_)
        refine Xg.ops_flag (j := 24) (c := (decide (a ≥ (16384 : Int)))) (by kernel_rfl) (fun _ => ?_) (fun xh1 => absurd (of_decide_eq_false xh1) (by omega))
        refine Xg.ops_op (by kernel_rfl) (Xg.opx_pure ((iv a)) rfl (fun _ => by kernel_rfl) ?_)
        refine Xg.ops_op (by kernel_rfl) (Xg.opx_pure (.bool (decide ((a : Int) < ((32768 : Int))))) rfl (fun _ => by kernel_rfl) ?_)
        refine Xg.ops_flag (j := 26) (c := (decide (a < (32768 : Int)))) (by kernel_rfl) (fun xh1 => absurd (of_decide_eq_true xh1) (by omega)) (fun _ => ?_)
        refine Xg.ops_op (by kernel_rfl) (Xg.opx_pure ((Value.bool false)) rfl (fun _ => by kernel_rfl) ?_)
        refine Xg.ops_op (by kernel_rfl) (Xg.opx_pure ((Value.bool false)) rfl (fun _ => by kernel_rfl) ?_)
        refine Xg.ops_nil ?_
        refine Xg.at_false (t := false) (by kernel_rfl) rfl ?_
        refine Xg.at_skip ?_
        refine Xg.at_inBlock ?_
        refine Xg.at_seq ?_
        refine Xg.at_region ?_
        refine Xg.ops_op (by kernel_rfl) (Xg.opx_pure ((pv p 0)) rfl (fun _ => by kernel_rfl) ?_)
        refine Xg.ops_op (by kernel_rfl) (Xg.opx_pure ((iv a)) rfl (fun _ => by kernel_rfl) ?_)
        refine Xg.ops_op (by kernel_rfl) (Xg.opx_call1' [0, 1, 2, 3] [CR p h ra rn rc ma mn mc (V5 mb), bts ra rn rc R, bts ma mn mc M, MR5 mb r] (fun _ => by kernel_rfl) (@hce ) (by kernel_rfl) (by kernel_rfl) (by kernel_rfl) ?_)
        refine Xg.ops_op (by kernel_rfl) (Xg.opx_pure ((iv ci)) rfl (fun _ => by kernel_rfl) ?_)
        refine Xg.ops_nil ?_
        refine Xg.at_seq ?_
        refine Xg.at_block ?_
        refine Xg.at_seq ?_
        refine Xg.at_region ?_
        refine Xg.ops_op (by kernel_rfl) (Xg.opx_pure ((iv ci)) rfl (fun _ => by kernel_rfl) ?_)
        refine Xg.ops_op (by kernel_rfl) (Xg.opx_pure (.bool (decide ((ci : Int) < ((0 : Int))))) rfl (fun _ => by kernel_rfl) ?_)
        refine Xg.ops_op (by kernel_rfl) (Xg.opx_pure ((Value.bool (decide (ci < (0 : Int))))) rfl (fun _ => by kernel_rfl) ?_)
        refine Xg.ops_nil ?_
        refine Xg.at_true (t := decide ((ci < (0 : Int)))) (by kernel_rfl) (decide_eq_true (by omega)) ?_
        refine Xg.at_seq ?_
        refine Xg.at_region ?_
        refine Xg.ops_op (by kernel_rfl) (Xg.opx_pure ((uv 255)) rfl (fun _ => by kernel_rfl) ?_)
        refine Xg.ops_nil ?_
        refine Xg.at_ret_ps (v := (uv 255)) [0, 1, 2, 3] [CR p h ra rn rc ma mn mc (V5 mb), bts ra rn rc R, bts ma mn mc M, MR5 mb r] Go.Proofs.Tryd.func12 (fun _ => by kernel_rfl) (by kernel_rfl) (by kernel_rfl) ?_
        exact ⟨by kernel_rfl, by kernel_rfl⟩)
  obtain ⟨h5, h6⟩ := hlt h3
  rw [if_neg h3]
  obtain ⟨cn, rfl⟩ : ∃ cn : Nat, ci = (cn : Int) := ⟨ci.toNat, by omega⟩
  rw [if_neg (by decide)]
  rw [Int.toNat_natCast]
  have hbb := isB_get hB (i := cn) (by omega)
  by_cases h4 : a < 0
  · (focus
      refine Xg.spec_of Go.Proofs.Tryd.func12 rfl Go.Proofs.Tryd.ntmps12 fun g F => ?_)
    (focus
      refine Xg.at_seq ?_
      refine Xg.at_region ?_
      refine Xg.ops_op (by kernel_rfl) (Xg.opx_pure ((uv 0)) rfl (fun _ => by kernel_rfl) ?_)
      refine Xg.ops_nil ?_
      refine Xg.at_seq ?_
      refine Xg.at_block ?_
      refine Xg.at_seq ?_
      refine Xg.at_region ?_
      refine Xg.ops_op (by kernel_rfl) (Xg.opx_pure ((iv a)) rfl (fun _ => by kernel_rfl) ?_)
      refine Xg.ops_op (by kernel_rfl) (Xg.opx_pure (.bool (decide ((a : Int) ≥ ((0 : Int))))) rfl (fun _ => by kernel_rfl) ?_)
      refine Xg.ops_op (by kernel_rfl) (Xg.opx_pure ((Value.bool (decide (a ≥ (0 : Int))))) rfl (fun _ => by kernel_rfl) ?_)
      refine Xg.ops_flag (j := 9) (c := (decide (a ≥ (0 : Int)))) (by kernel_rfl) (fun xh1 => absurd (of_decide_eq_true xh1) (by omega)) (fun _ => ?_)
      refine Xg.ops_skip (by kernel_rfl) ?_
      refine Xg.ops_skip (by kernel_rfl) ?_
      refine Xg.ops_op (by kernel_rfl) (Xg.opx_pure ((Value.bool false)) rfl (fun _ => by kernel_rfl) ?_)
      refine Xg.ops_op (by kernel_rfl) (Xg.opx_pure ((Value.bool false)) rfl (fun _ => by kernel_rfl) ?_)
      refine Xg.ops_nil ?_
      refine Xg.at_false (t := false) (by kernel_rfl) rfl ?_
      refine Xg.at_seq ?_
      refine Xg.at_region ?_
      refine Xg.ops_op (by kernel_rfl) (Xg.opx_pure ((iv a)) rfl (fun _ => by kernel_rfl) ?_)
      refine Xg.ops_op (by kernel_rfl) (Xg.opx_pure (.bool (decide ((a : Int) ≥ ((16384 : Int))))) rfl (fun _ => by kernel_rfl) ?_)
      refine Xg.ops_op (by kernel_rfl) (Xg.opx_pure ((Value.bool (decide (a ≥ (16384 : Int))))) rfl (fun _ => by kernel_rfl) ?_)
      refine Xg.ops_flag (j := 24) (c := (decide (a ≥ (16384 : Int)))) (by kernel_rfl) (fun xh1 => absurd (of_decide_eq_true xh1) (by omega)) (fun _ => ?_)
      refine Xg.ops_skip (by kernel_rfl) ?_
      refine Xg.ops_skip (by kernel_rfl) ?_
      refine Xg.ops_op (by kernel_rfl) (Xg.opx_pure ((Value.bool false)) rfl (fun _ => by kernel_rfl) ?_)
      refine Xg.ops_op (by kernel_rfl) (Xg.opx_pure ((Value.bool false)) rfl (fun _ => by kernel_rfl) ?_)
      refine Xg.ops_nil ?_
      refine Xg.at_false (t := false) (by kernel_rfl) rfl ?_
      refine Xg.at_skip ?_
      refine Xg.at_inBlock ?_
      refine Xg.at_seq ?_
      refine Xg.at_region ?_
      refine Xg.ops_op (by kernel_rfl) (Xg.opx_pure ((pv p 0)) rfl (fun _ => by kernel_rfl) ?_)
      refine Xg.ops_op (by kernel_rfl) (Xg.opx_pure ((iv a)) rfl (fun _ => by kernel_rfl) ?_)
      refine Xg.ops_op (by kernel_rfl) (Xg.opx_call1' [0, 1, 2, 3] [CR p h ra rn rc ma mn mc (V5 mb), bts ra rn rc R, bts ma mn mc M, MR5 mb r] (fun _ => by kernel_rfl) (@hce ) (by kernel_rfl) (by kernel_rfl) (by kernel_rfl) ?_)
      refine Xg.ops_op (by kernel_rfl) (Xg.opx_pure ((iv (↑cn : Int))) rfl (fun _ => by kernel_rfl) ?_)
      refine Xg.ops_nil ?_
      refine Xg.at_seq ?_
      refine Xg.at_block ?_
      refine Xg.at_seq ?_
      refine Xg.at_region ?_
      refine Xg.ops_op (by kernel_rfl) (Xg.opx_pure ((iv (↑cn : Int))) rfl (fun _ => by kernel_rfl) ?_)
      refine Xg.ops_op (by kernel_rfl) (Xg.opx_pure (.bool (decide ((((↑cn : Int)) : Int) < ((0 : Int))))) rfl (fun _ => by kernel_rfl) ?_)
      refine Xg.ops_op (by kernel_rfl) (Xg.opx_pure ((Value.bool (decide ((↑cn : Int) < (0 : Int))))) rfl (fun _ => by kernel_rfl) ?_)
      refine Xg.ops_nil ?_
      refine Xg.at_false (t := false) (by kernel_rfl) rfl ?_
      refine Xg.at_seq ?_
      refine Xg.at_region ?_
      refine Xg.ops_op (by kernel_rfl) (Xg.opx_pure ((pv p 0)) rfl (fun _ => by kernel_rfl) ?_)
      refine Xg.ops_op (by kernel_rfl) (Xg.opx_pure ((pv p 0)) rfl (fun _ => by kernel_rfl) ?_)
      refine Xg.ops_op (by kernel_rfl) (Xg.opx_pure ((pv p 0)) rfl (fun _ => by kernel_rfl) ?_)
      refine Xg.ops_op (by kernel_rfl) (Xg.opx_pure ((pv p 2)) rfl (fun _ => by kernel_rfl) ?_)
      refine Xg.ops_op (by kernel_rfl) (Xg.opx_load (b := p) (off := ((2 : Nat))) 0 (iv h.mp) rfl (by kernel_rfl) (by kernel_rfl) (by kernel_rfl) ?_)
      refine Xg.ops_op (by kernel_rfl) (Xg.opx_pure (.bool (decide ((h.mp : Int) = ((2 : Int))))) rfl (fun _ => by kernel_rfl) ?_)
      refine Xg.ops_op (by kernel_rfl) (Xg.opx_pure ((Value.bool (decide (h.mp = (2 : Int))))) rfl (fun _ => by kernel_rfl) ?_)
      refine Xg.ops_nil ?_
      refine Xg.at_false (t := decide ((h.mp = (2 : Int)))) (by kernel_rfl) (decide_eq_false (by omega)) ?_
      refine Xg.at_skip ?_
      refine Xg.at_inBlock ?_
      refine Xg.at_seq ?_
      refine Xg.at_region ?_
      refine Xg.ops_op (by kernel_rfl) (Xg.opx_pure ((pv p 0)) rfl (fun _ => by kernel_rfl) ?_)
      refine Xg.ops_op (by kernel_rfl) (Xg.opx_pure ((pv p 0)) rfl (fun _ => by kernel_rfl) ?_)
      refine Xg.ops_op (by kernel_rfl) (Xg.opx_pure ((pv p 7)) rfl (fun _ => by kernel_rfl) ?_)
      refine Xg.ops_op (by kernel_rfl) (Xg.opx_load (b := p) (off := ((7 : Nat))) 0 (Value.slice ma mn mc) rfl (by kernel_rfl) (by kernel_rfl) (by kernel_rfl) ?_)
      refine Xg.ops_op (by kernel_rfl) (Xg.opx_pure ((iv (↑cn : Int))) rfl (fun _ => by kernel_rfl) ?_)
      refine Xg.ops_op (by kernel_rfl) (Xg.opx_ix_own (elem := 5) (kd := .i64) (e := ((↑cn : Int))) 2 1 cn cn rfl (by kernel_rfl) (by kernel_rfl) (by kernel_rfl) (by kernel_rfl) rfl (by omega) (by omega) ?_)
      refine Xg.ops_op (by kernel_rfl) (Xg.opx_load_own (a := ma) (off := cn) 2 (uv (M.getD cn (0 : Int))) rfl (by kernel_rfl) (Xg.get_ints (by omega)) (by kernel_rfl) ?_)
      refine Xg.ops_op (by kernel_rfl) (Xg.opx_pure ((uv (M.getD cn (0 : Int)))) rfl (fun _ => by kernel_rfl) ?_)
      refine Xg.ops_nil ?_
      refine Xg.at_ret_ps (v := (uv (M.getD cn (0 : Int)))) [0, 1, 2, 3] [CR p h ra rn rc ma mn mc (V5 mb), bts ra rn rc R, bts ma mn mc M, MR5 mb r] Go.Proofs.Tryd.func12 (fun _ => by kernel_rfl) (by kernel_rfl) (by kernel_rfl) ?_
      exact ⟨by kernel_rfl, by kernel_rfl⟩)
  · (focus
      refine Xg.spec_of Go.Proofs.Tryd.func12 rfl Go.Proofs.Tryd.ntmps12 fun g F => ?_)
    (focus
      refine Xg.at_seq ?_
      refine Xg.at_region ?_
      refine Xg.ops_op (by kernel_rfl) (Xg.opx_pure ((uv 0)) rfl (fun _ => by kernel_rfl) ?_)
      refine Xg.ops_nil ?_
      refine Xg.at_seq ?_
      refine Xg.at_block ?_
      refine Xg.at_seq ?_
      refine Xg.at_region ?_
      refine Xg.ops_op (by kernel_rfl) (Xg.opx_pure ((iv a)) rfl (fun _ => by kernel_rfl) ?_)
      refine Xg.ops_op (by kernel_rfl) (Xg.opx_pure (.bool (decide ((a : Int) ≥ ((0 : Int))))) rfl (fun _ => by kernel_rfl) ?_)
      refine Xg.ops_op (by kernel_rfl) (Xg.opx_pure ((Value.bool (decide (a ≥ (0 : Int))))) rfl (fun _ => by kernel_rfl) ?_)
      refine Xg.ops_flag (j := 9) (c := (decide (a ≥ (0 : Int)))) (by kernel_rfl) (fun _ => ?_) (fun xh1 => absurd (of_decide_eq_false xh1) (by omega))
      refine Xg.ops_op (by kernel_rfl) (Xg.opx_pure ((iv a)) rfl (fun _ => by kernel_rfl) ?_)
      refine Xg.ops_op (by kernel_rfl) (Xg.opx_pure (.bool (decide ((a : Int) < ((16384 : Int))))) rfl (fun _ => by kernel_rfl) ?_)
      refine Xg.ops_flag (j := 11) (c := (decide (a < (16384 : Int)))) (by kernel_rfl) (fun xh1 => absurd (of_decide_eq_true xh1) (by omega)) (fun _ => ?_)
      refine Xg.ops_op (by kernel_rfl) (Xg.opx_pure ((Value.bool false)) rfl (fun _ => by kernel_rfl) ?_)
      refine Xg.ops_op (by kernel_rfl) (Xg.opx_pure ((Value.bool false)) rfl (fun _ => by kernel_rfl) ?_)
      refine Xg.ops_nil ?_
      refine Xg.at_false (t := false) (by kernel_rfl) rfl ?_
      refine Xg.at_seq ?_
      refine Xg.at_region ?_
      refine Xg.ops_op (by kernel_rfl) (Xg.opx_pure ((iv a)) rfl (fun _ => by kernel_rfl) ?_)
      refine Xg.ops_op (by kernel_rfl) (Xg.opx_pure (.bool (decide ((a : Int) ≥ ((16384 : Int))))) rfl (fun _ => by kernel_rfl) ?_)
      refine Xg.ops_op (by kernel_rfl) (Xg.opx_pure ((Value.bool (decide (a ≥ (16384 : Int))))) rfl (fun _ => by kernel_rfl) ?_)
      refine Xg.ops_flag (j := 24) (c := (decide (a ≥ (16384 : Int)))) (by kernel_rfl) (fun _ => ?_) (fun xh1 => absurd (of_decide_eq_false xh1) (by omega))
      refine Xg.ops_op (by kernel_rfl) (Xg.opx_pure ((iv a)) rfl (fun _ => by kernel_rfl) ?_)
      refine Xg.ops_op (by kernel_rfl) (Xg.opx_pure (.bool (decide ((a : Int) < ((32768 : Int))))) rfl (fun _ => by kernel_rfl) ?_)
      refine Xg.ops_flag (j := 26) (c := (decide (a < (32768 : Int)))) (by kernel_rfl) (fun xh1 => absurd (of_decide_eq_true xh1) (by omega)) (fun _ => ?_)
      refine Xg.ops_op (by kernel_rfl) (Xg.opx_pure ((Value.bool false)) rfl (fun _ => by kernel_rfl) ?_)
      refine Xg.ops_op (by kernel_rfl) (Xg.opx_pure ((Value.bool false)) rfl (fun _ => by kernel_rfl) ?_)
      refine Xg.ops_nil ?_
      refine Xg.at_false (t := false) (by kernel_rfl) rfl ?_
      refine Xg.at_skip ?_
      refine Xg.at_inBlock ?_
      refine Xg.at_seq ?_
      refine Xg.at_region ?_
      refine Xg.ops_op (by kernel_rfl) (Xg.opx_pure ((pv p 0)) rfl (fun _ => by kernel_rfl) ?_)
      refine Xg.ops_op (by kernel_rfl) (Xg.opx_pure ((iv a)) rfl (fun _ => by kernel_rfl) ?_)
      refine Xg.ops_op (by kernel_rfl) (Xg.opx_call1' [0, 1, 2, 3] [CR p h ra rn rc ma mn mc (V5 mb), bts ra rn rc R, bts ma mn mc M, MR5 mb r] (fun _ => by kernel_rfl) (@hce ) (by kernel_rfl) (by kernel_rfl) (by kernel_rfl) ?_)
      refine Xg.ops_op (by kernel_rfl) (Xg.opx_pure ((iv (↑cn : Int))) rfl (fun _ => by kernel_rfl) ?_)
      refine Xg.ops_nil ?_
      refine Xg.at_seq ?_
      refine Xg.at_block ?_
      refine Xg.at_seq ?_
      refine Xg.at_region ?_
      refine Xg.ops_op (by kernel_rfl) (Xg.opx_pure ((iv (↑cn : Int))) rfl (fun _ => by kernel_rfl) ?_)
      refine Xg.ops_op (by kernel_rfl) (Xg.opx_pure (.bool (decide ((((↑cn : Int)) : Int) < ((0 : Int))))) rfl (fun _ => by kernel_rfl) ?_)
      refine Xg.ops_op (by kernel_rfl) (Xg.opx_pure ((Value.bool (decide ((↑cn : Int) < (0 : Int))))) rfl (fun _ => by kernel_rfl) ?_)
      refine Xg.ops_nil ?_
      refine Xg.at_false (t := false) (by kernel_rfl) rfl ?_
      refine Xg.at_seq ?_
      refine Xg.at_region ?_
      refine Xg.ops_op (by kernel_rfl) (Xg.opx_pure ((pv p 0)) rfl (fun _ => by kernel_rfl) ?_)
      refine Xg.ops_op (by kernel_rfl) (Xg.opx_pure ((pv p 0)) rfl (fun _ => by kernel_rfl) ?_)
      refine Xg.ops_op (by kernel_rfl) (Xg.opx_pure ((pv p 0)) rfl (fun _ => by kernel_rfl) ?_)
      refine Xg.ops_op (by kernel_rfl) (Xg.opx_pure ((pv p 2)) rfl (fun _ => by kernel_rfl) ?_)
      refine Xg.ops_op (by kernel_rfl) (Xg.opx_load (b := p) (off := ((2 : Nat))) 0 (iv h.mp) rfl (by kernel_rfl) (by kernel_rfl) (by kernel_rfl) ?_)
      refine Xg.ops_op (by kernel_rfl) (Xg.opx_pure (.bool (decide ((h.mp : Int) = ((2 : Int))))) rfl (fun _ => by kernel_rfl) ?_)
      refine Xg.ops_op (by kernel_rfl) (Xg.opx_pure ((Value.bool (decide (h.mp = (2 : Int))))) rfl (fun _ => by kernel_rfl) ?_)
      refine Xg.ops_nil ?_
      refine Xg.at_false (t := decide ((h.mp = (2 : Int)))) (by kernel_rfl) (decide_eq_false (by omega)) ?_
      refine Xg.at_skip ?_
      refine Xg.at_inBlock ?_
      refine Xg.at_seq ?_
      refine Xg.at_region ?_
      refine Xg.ops_op (by kernel_rfl) (Xg.opx_pure ((pv p 0)) rfl (fun _ => by kernel_rfl) ?_)
      refine Xg.ops_op (by kernel_rfl) (Xg.opx_pure ((pv p 0)) rfl (fun _ => by kernel_rfl) ?_)
      refine Xg.ops_op (by kernel_rfl) (Xg.opx_pure ((pv p 7)) rfl (fun _ => by kernel_rfl) ?_)
      refine Xg.ops_op (by kernel_rfl) (Xg.opx_load (b := p) (off := ((7 : Nat))) 0 (Value.slice ma mn mc) rfl (by kernel_rfl) (by kernel_rfl) (by kernel_rfl) ?_)
      refine Xg.ops_op (by kernel_rfl) (Xg.opx_pure ((iv (↑cn : Int))) rfl (fun _ => by kernel_rfl) ?_)
      refine Xg.ops_op (by kernel_rfl) (Xg.opx_ix_own (elem := 5) (kd := .i64) (e := ((↑cn : Int))) 2 1 cn cn rfl (by kernel_rfl) (by kernel_rfl) (by kernel_rfl) (by kernel_rfl) rfl (by omega) (by omega) ?_)
      refine Xg.ops_op (by kernel_rfl) (Xg.opx_load_own (a := ma) (off := cn) 2 (uv (M.getD cn (0 : Int))) rfl (by kernel_rfl) (Xg.get_ints (by omega)) (by kernel_rfl) ?_)
      refine Xg.ops_op (by kernel_rfl) (Xg.opx_pure ((uv (M.getD cn (0 : Int)))) rfl (fun _ => by kernel_rfl) ?_)
      refine Xg.ops_nil ?_
      refine Xg.at_ret_ps (v := (uv (M.getD cn (0 : Int)))) [0, 1, 2, 3] [CR p h ra rn rc ma mn mc (V5 mb), bts ra rn rc R, bts ma mn mc M, MR5 mb r] Go.Proofs.Tryd.func12 (fun _ => by kernel_rfl) (by kernel_rfl) (by kernel_rfl) ?_
      exact ⟨by kernel_rfl, by kernel_rfl⟩)
theorem writeR5_d (p mb : Nat) (h : Hd) (r : Rg) (ra : Option Addr) (rn rc : Nat) (ma : Option Addr) (mn mc : Nat) (R M : List Int) (a v : Int) (hwa : 0 ≤ a ∧ a < 32768) (hv : 0 ≤ v ∧ v ≤ 255) : Does Tryd.prog 13 [.pointer (some ⟨p, 0, none⟩), .int .i64 a, .int .u8 v] [CR p h ra rn rc ma mn mc (V5 mb), bts ra rn rc R, bts ma mn mc M, MR5 mb r] (Ret (.tuple #[]) [CR p h ra rn rc ma mn mc (V5 mb), bts ra rn rc R, bts ma mn mc M, MR5 mb (regW5 r a v)]) := by
  have hw := write5_d mb r a v hwa hv
  (focus
    refine Xg.spec_of Go.Proofs.Tryd.func13 rfl Go.Proofs.Tryd.ntmps13 fun g F => ?_)
  (focus
    refine Xg.at_seq ?_
    refine Xg.at_seq ?_
    refine Xg.at_region ?_
    refine Xg.ops_op (by kernel_rfl) (Xg.opx_pure ((iv a)) rfl (fun _ => by kernel_rfl) ?_)
    refine Xg.ops_op (by kernel_rfl) (Xg.opx_pure (.bool (decide ((a : Int) ≥ ((0 : Int))))) rfl (fun _ => by kernel_rfl) ?_)
    refine Xg.ops_op (by kernel_rfl) (Xg.opx_pure ((Value.bool (decide (a ≥ (0 : Int))))) rfl (fun _ => by kernel_rfl) ?_)
    refine Xg.ops_flag (j := 9) (c := (decide (a ≥ (0 : Int)))) (by kernel_rfl) (fun _ => ?_) (fun xh1 => absurd (of_decide_eq_false xh1) (by omega))
    refine Xg.ops_op (by kernel_rfl) (Xg.opx_pure ((iv a)) rfl (fun _ => by kernel_rfl) ?_)
    refine Xg.ops_op (by kernel_rfl) (Xg.opx_pure (.bool (decide ((a : Int) < ((32768 : Int))))) rfl (fun _ => by kernel_rfl) ?_)
    refine Xg.ops_flag (j := 11) (c := (decide (a < (32768 : Int)))) (by kernel_rfl) (fun _ => ?_) (fun xh1 => absurd (of_decide_eq_false xh1) (by omega))
    refine Xg.ops_op (by kernel_rfl) (Xg.opx_pure ((Value.bool true)) rfl (fun _ => by kernel_rfl) ?_)
    refine Xg.ops_nil ?_
    refine Xg.at_true (t := true) (by kernel_rfl) rfl ?_
    refine Xg.at_seq ?_
    refine Xg.at_region ?_
    refine Xg.ops_op (by kernel_rfl) (Xg.opx_pure ((pv p 0)) rfl (fun _ => by kernel_rfl) ?_)
    refine Xg.ops_op (by kernel_rfl) (Xg.opx_pure ((pv p 0)) rfl (fun _ => by kernel_rfl) ?_)
    refine Xg.ops_op (by kernel_rfl) (Xg.opx_pure ((pv p 8)) rfl (fun _ => by kernel_rfl) ?_)
    refine Xg.ops_op (by kernel_rfl) (Xg.opx_load (b := p) (off := ((8 : Nat))) 0 (Value.iface (80 : Nat) (pv mb 0)) rfl (by kernel_rfl) (by kernel_rfl) (by kernel_rfl) ?_)
    refine Xg.ops_op (by kernel_rfl) (Xg.opx_pure ((iv a)) rfl (fun _ => by kernel_rfl) ?_)
    refine Xg.ops_op (by kernel_rfl) (Xg.opx_pure ((uv v)) rfl (fun _ => by kernel_rfl) ?_)
    refine Xg.ops_op (by kernel_rfl) (Xg.opx_call1' [3] [MR5 mb (regW5 r a v), CR p h ra rn rc ma mn mc (V5 mb), bts ra rn rc R, bts ma mn mc M] (fun _ => by kernel_rfl) (@hw ) (by kernel_rfl) (by kernel_rfl) (by kernel_rfl) ?_)
    refine Xg.ops_nil ?_
    refine Xg.at_ret_ps (v := (tu)) [1, 2, 3, 0] [CR p h ra rn rc ma mn mc (V5 mb), bts ra rn rc R, bts ma mn mc M, MR5 mb (regW5 r a v)] Go.Proofs.Tryd.func13 (fun _ => by kernel_rfl) (by kernel_rfl) (by kernel_rfl) ?_
    exact ⟨by kernel_rfl, by kernel_rfl⟩)
theorem writeN5_d (p mb : Nat) (h : Hd) (r : Rg) (ra : Option Addr) (rn rc : Nat) (ma : Option Addr) (mn mc : Nat) (R M : List Int) (a v : Int) (ha : iok a) (hwa : a < 0 ∨ 32767 < a) (hv : 0 ≤ v ∧ v ≤ 255) (hr : r.Ok) (hbk : 2 ≤ h.bk ∧ h.bk ≤ 128) (hR : R.length = rn) (hrn : (rn : Int) = 16384 * h.bk) (hrc : rn ≤ rc) (hM : M.length = mn) (hmc : mn ≤ mc) (hB : isB M) (hmp : h.mp = 5) (hmo : ramOk 5 mn) (hc : cellI 5 r mn a < 0) : Does Tryd.prog 13 [.pointer (some ⟨p, 0, none⟩), .int .i64 a, .int .u8 v] [CR p h ra rn rc ma mn mc (V5 mb), bts ra rn rc R, bts ma mn mc M, MR5 mb r] (Ret (.tuple #[]) [CR p h ra rn rc ma mn mc (V5 mb), bts ra rn rc R, bts ma mn mc M, MR5 mb r]) := by
  have hce := cell5_d p mb h r ra rn rc ma mn mc R M a ha hr hbk hR hrn hrc hM hmc hB hmp hmo
  obtain ⟨ci, hci⟩ : ∃ ci, cellI 5 r mn a = ci := ⟨_, rfl⟩
  rw [hci] at hce hc
  by_cases h4 : a < 0
  · (focus
      refine Xg.spec_of Go.Proofs.Tryd.func13 rfl Go.Proofs.Tryd.ntmps13 fun g F => ?_)
    (focus
      refine Xg.at_seq ?_
      refine Xg.at_seq ?_
      refine Xg.at_region ?_
      refine Xg.ops_op (by kernel_rfl) (Xg.opx_pure ((iv a)) rfl (fun _ => by kernel_rfl) ?_)
      refine Xg.ops_op (by kernel_rfl) (Xg.opx_pure (.bool (decide ((a : Int) ≥ ((0 : Int))))) rfl (fun _ => by kernel_rfl) ?_)
      refine Xg.ops_op (by kernel_rfl) (Xg.opx_pure ((Value.bool (decide (a ≥ (0 : Int))))) rfl (fun _ => by kernel_rfl) ?_)
      refine Xg.ops_flag (j := 9) (c := (decide (a ≥ (0 : Int)))) (by kernel_rfl) (fun xh1 => absurd (of_decide_eq_true xh1) (by omega)) (fun _ => ?_)
      refine Xg.ops_skip (by kernel_rfl) ?_
      refine Xg.ops_skip (by kernel_rfl) ?_
      refine Xg.ops_op (by kernel_rfl) (Xg.opx_pure ((Value.bool false)) rfl (fun _ => by kernel_rfl) ?_)
      refine Xg.ops_nil ?_
      refine Xg.at_false (t := false) (by kernel_rfl) rfl ?_
      refine Xg.at_skip ?_
      refine Xg.at_seq ?_
      refine Xg.at_region ?_
      refine Xg.ops_op (by kernel_rfl) (Xg.opx_pure ((pv p 0)) rfl (fun _ => by kernel_rfl) ?_)
      refine Xg.ops_op (by kernel_rfl) (Xg.opx_pure ((iv a)) rfl (fun _ => by kernel_rfl) ?_)
      refine Xg.ops_op (by kernel_rfl) (Xg.opx_call1' [0, 1, 2, 3] [CR p h ra rn rc ma mn mc (V5 mb), bts ra rn rc R, bts ma mn mc M, MR5 mb r] (fun _ => by kernel_rfl) (@hce ) (by kernel_rfl) (by kernel_rfl) (by kernel_rfl) ?_)
      refine Xg.ops_op (by kernel_rfl) (Xg.opx_pure ((iv ci)) rfl (fun _ => by kernel_rfl) ?_)
      refine Xg.ops_nil ?_
      refine Xg.at_seq ?_
      refine Xg.at_seq ?_
      refine Xg.at_region ?_
      refine Xg.ops_op (by kernel_rfl) (Xg.opx_pure ((iv ci)) rfl (fun _ => by kernel_rfl) ?_)
      refine Xg.ops_op (by kernel_rfl) (Xg.opx_pure (.bool (decide ((ci : Int) < ((0 : Int))))) rfl (fun _ => by kernel_rfl) ?_)
      refine Xg.ops_nil ?_
      refine Xg.at_true (t := decide ((ci < (0 : Int)))) (by kernel_rfl) (decide_eq_true (by omega)) ?_
      refine Xg.at_ret_ps (v := (tu)) [0, 1, 2, 3] [CR p h ra rn rc ma mn mc (V5 mb), bts ra rn rc R, bts ma mn mc M, MR5 mb r] Go.Proofs.Tryd.func13 (fun _ => by kernel_rfl) (by kernel_rfl) (by kernel_rfl) ?_
      exact ⟨by kernel_rfl, by kernel_rfl⟩)
  · (focus
      refine Xg.spec_of Go.Proofs.Tryd.func13 rfl Go.Proofs.Tryd.ntmps13 fun g F => ?_)
    (focus
      refine Xg.at_seq ?_
      refine Xg.at_seq ?_
      refine Xg.at_region ?_
      refine Xg.ops_op (by kernel_rfl) (Xg.opx_pure ((iv a)) rfl (fun _ => by kernel_rfl) ?_)
      refine Xg.ops_op (by kernel_rfl) (Xg.opx_pure (.bool (decide ((a : Int) ≥ ((0 : Int))))) rfl (fun _ => by kernel_rfl) ?_)
      refine Xg.ops_op (by kernel_rfl) (Xg.opx_pure ((Value.bool (decide (a ≥ (0 : Int))))) rfl (fun _ => by kernel_rfl) ?_)
      refine Xg.ops_flag (j := 9) (c := (decide (a ≥ (0 : Int)))) (by kernel_rfl) (fun _ => ?_) (fun xh1 => absurd (of_decide_eq_false xh1) (by omega))
      refine Xg.ops_op (by kernel_rfl) (Xg.opx_pure ((iv a)) rfl (fun _ => by kernel_rfl) ?_)
      refine Xg.ops_op (by kernel_rfl) (Xg.opx_pure (.bool (decide ((a : Int) < ((32768 : Int))))) rfl (fun _ => by kernel_rfl) ?_)
      refine Xg.ops_flag (j := 11) (c := (decide (a < (32768 : Int)))) (by kernel_rfl) (fun xh1 => absurd (of_decide_eq_true xh1) (by omega)) (fun _ => ?_)
      refine Xg.ops_op (by kernel_rfl) (Xg.opx_pure ((Value.bool false)) rfl (fun _ => by kernel_rfl) ?_)
      refine Xg.ops_nil ?_
      refine Xg.at_false (t := false) (by kernel_rfl) rfl ?_
      refine Xg.at_skip ?_
      refine Xg.at_seq ?_
      refine Xg.at_region ?_
      refine Xg.ops_op (by kernel_rfl) (Xg.opx_pure ((pv p 0)) rfl (fun _ => by kernel_rfl) ?_)
      refine Xg.ops_op (by kernel_rfl) (Xg.opx_pure ((iv a)) rfl (fun _ => by kernel_rfl) ?_)
      refine Xg.ops_op (by kernel_rfl) (Xg.opx_call1' [0, 1, 2, 3] [CR p h ra rn rc ma mn mc (V5 mb), bts ra rn rc R, bts ma mn mc M, MR5 mb r] (fun _ => by kernel_rfl) (@hce ) (by kernel_rfl) (by kernel_rfl) (by kernel_rfl) ?_)
      refine Xg.ops_op (by kernel_rfl) (Xg.opx_pure ((iv ci)) rfl (fun _ => by kernel_rfl) ?_)
      refine Xg.ops_nil ?_
      refine Xg.at_seq ?_
      refine Xg.at_seq ?_
      refine Xg.at_region ?_
      refine Xg.ops_op (by kernel_rfl) (Xg.opx_pure ((iv ci)) rfl (fun _ => by kernel_rfl) ?_)
      refine Xg.ops_op (by kernel_rfl) (Xg.opx_pure (.bool (decide ((ci : Int) < ((0 : Int))))) rfl (fun _ => by kernel_rfl) ?_)
      refine Xg.ops_nil ?_
      refine Xg.at_true (t := decide ((ci < (0 : Int)))) (by kernel_rfl) (decide_eq_true (by omega)) ?_
      refine Xg.at_ret_ps (v := (tu)) [0, 1, 2, 3] [CR p h ra rn rc ma mn mc (V5 mb), bts ra rn rc R, bts ma mn mc M, MR5 mb r] Go.Proofs.Tryd.func13 (fun _ => by kernel_rfl) (by kernel_rfl) (by kernel_rfl) ?_
      exact ⟨by kernel_rfl, by kernel_rfl⟩)
theorem writeM5_d (p mb : Nat) (h : Hd) (r : Rg) (ra : Option Addr) (rn rc : Nat) (ma : Option Addr) (mn mc : Nat) (R M : List Int) (a v : Int) (ha : iok a) (hwa : a < 0 ∨ 32767 < a) (hv : 0 ≤ v ∧ v ≤ 255) (hr : r.Ok) (hbk : 2 ≤ h.bk ∧ h.bk ≤ 128) (hR : R.length = rn) (hrn : (rn : Int) = 16384 * h.bk) (hrc : rn ≤ rc) (hM : M.length = mn) (hmc : mn ≤ mc) (hB : isB M) (hmp : h.mp = 5) (hmo : ramOk 5 mn) (hc : ¬ cellI 5 r mn a < 0) : Does Tryd.prog 13 [.pointer (some ⟨p, 0, none⟩), .int .i64 a, .int .u8 v] [CR p h ra rn rc ma mn mc (V5 mb), bts ra rn rc R, bts ma mn mc M, MR5 mb r] (Ret (.tuple #[]) [CR p h ra rn rc ma mn mc (V5 mb), bts ra rn rc R, bts ma mn mc (M.set (cellI 5 r mn a).toNat v), MR5 mb r]) := by
  have hce := cell5_d p mb h r ra rn rc ma mn mc R M a ha hr hbk hR hrn hrc hM hmc hB hmp hmo
  have hlt := cell_lt 5 r mn a hr hmo hc
  obtain ⟨ci, hci⟩ : ∃ ci, cellI 5 r mn a = ci := ⟨_, rfl⟩
  rw [hci] at hce hc hlt ⊢
  obtain ⟨cn, rfl⟩ : ∃ cn : Nat, ci = (cn : Int) := ⟨ci.toNat, by omega⟩
  rw [Int.toNat_natCast]
  have hl9 : cn < M.length := by omega
  by_cases h4 : a < 0
  · (focus
      refine Xg.spec_of Go.Proofs.Tryd.func13 rfl Go.Proofs.Tryd.ntmps13 fun g F => ?_)
    (focus
      refine Xg.at_seq ?_
      refine Xg.at_seq ?_
      refine Xg.at_region ?_
      refine Xg.ops_op (by kernel_rfl) (Xg.opx_pure ((iv a)) rfl (fun _ => by kernel_rfl) ?_)
      refine Xg.ops_op (by kernel_rfl) (Xg.opx_pure (.bool (decide ((a : Int) ≥ ((0 : Int))))) rfl (fun _ => by kernel_rfl) ?_)
      refine Xg.ops_op (by kernel_rfl) (Xg.opx_pure ((Value.bool (decide (a ≥ (0 : Int))))) rfl (fun _ => by kernel_rfl) ?_)
      refine Xg.ops_flag (j := 9) (c := (decide (a ≥ (0 : Int)))) (by kernel_rfl) (fun xh1 => absurd (of_decide_eq_true xh1) (by omega)) (fun _ => ?_)
      refine Xg.ops_skip (by kernel_rfl) ?_
      refine Xg.ops_skip (by kernel_rfl) ?_
      refine Xg.ops_op (by kernel_rfl) (Xg.opx_pure ((Value.bool false)) rfl (fun _ => by kernel_rfl) ?_)
      refine Xg.ops_nil ?_
      refine Xg.at_false (t := false) (by kernel_rfl) rfl ?_
      refine Xg.at_skip ?_
      refine Xg.at_seq ?_
      refine Xg.at_region ?_
      refine Xg.ops_op (by kernel_rfl) (Xg.opx_pure ((pv p 0)) rfl (fun _ => by kernel_rfl) ?_)
      refine Xg.ops_op (by kernel_rfl) (Xg.opx_pure ((iv a)) rfl (fun _ => by kernel_rfl) ?_)
      refine Xg.ops_op (by kernel_rfl) (Xg.opx_call1' [0, 1, 2, 3] [CR p h ra rn rc ma mn mc (V5 mb), bts ra rn rc R, bts ma mn mc M, MR5 mb r] (fun _ => by kernel_rfl) (@hce ) (by kernel_rfl) (by kernel_rfl) (by kernel_rfl) ?_)
      refine Xg.ops_op (by kernel_rfl) (Xg.opx_pure ((iv (↑cn : Int))) rfl (fun _ => by kernel_rfl) ?_)
      refine Xg.ops_nil ?_
      refine Xg.at_seq ?_
      refine Xg.at_seq ?_
      refine Xg.at_region ?_
      refine Xg.ops_op (by kernel_rfl) (Xg.opx_pure ((iv (↑cn : Int))) rfl (fun _ => by kernel_rfl) ?_)
      refine Xg.ops_op (by kernel_rfl) (Xg.opx_pure (.bool (decide ((((↑cn : Int)) : Int) < ((0 : Int))))) rfl (fun _ => by kernel_rfl) ?_)
      refine Xg.ops_nil ?_
      refine Xg.at_false (t := false) (by kernel_rfl) rfl ?_
      refine Xg.at_skip ?_
      refine Xg.at_seq ?_
      refine Xg.at_seq ?_
      refine Xg.at_region ?_
      refine Xg.ops_op (by kernel_rfl) (Xg.opx_pure ((pv p 0)) rfl (fun _ => by kernel_rfl) ?_)
      refine Xg.ops_op (by kernel_rfl) (Xg.opx_pure ((pv p 0)) rfl (fun _ => by kernel_rfl) ?_)
      refine Xg.ops_op (by kernel_rfl) (Xg.opx_pure ((pv p 0)) rfl (fun _ => by kernel_rfl) ?_)
      refine Xg.ops_op (by kernel_rfl) (Xg.opx_pure ((pv p 2)) rfl (fun _ => by kernel_rfl) ?_)
      refine Xg.ops_op (by kernel_rfl) (Xg.opx_load (b := p) (off := ((2 : Nat))) 0 (iv h.mp) rfl (by kernel_rfl) (by kernel_rfl) (by kernel_rfl) ?_)
      refine Xg.ops_op (by kernel_rfl) (Xg.opx_pure (.bool (decide ((h.mp : Int) = ((2 : Int))))) rfl (fun _ => by kernel_rfl) ?_)
      refine Xg.ops_nil ?_
      refine Xg.at_false (t := decide ((h.mp = (2 : Int)))) (by kernel_rfl) (decide_eq_false (by omega)) ?_
      refine Xg.at_skip ?_
      refine Xg.at_region ?_
      refine Xg.ops_op (by kernel_rfl) (Xg.opx_pure ((pv p 0)) rfl (fun _ => by kernel_rfl) ?_)
      refine Xg.ops_op (by kernel_rfl) (Xg.opx_pure ((pv p 0)) rfl (fun _ => by kernel_rfl) ?_)
      refine Xg.ops_op (by kernel_rfl) (Xg.opx_pure ((pv p 7)) rfl (fun _ => by kernel_rfl) ?_)
      refine Xg.ops_op (by kernel_rfl) (Xg.opx_load (b := p) (off := ((7 : Nat))) 0 (Value.slice ma mn mc) rfl (by kernel_rfl) (by kernel_rfl) (by kernel_rfl) ?_)
      refine Xg.ops_op (by kernel_rfl) (Xg.opx_pure ((iv (↑cn : Int))) rfl (fun _ => by kernel_rfl) ?_)
      refine Xg.ops_op (by kernel_rfl) (Xg.opx_pure ((uv v)) rfl (fun _ => by kernel_rfl) ?_)
      refine Xg.ops_op (by kernel_rfl) (Xg.opx_ix_own (elem := 5) (kd := .i64) (e := ((↑cn : Int))) 2 1 cn cn rfl (by kernel_rfl) (by kernel_rfl) (by kernel_rfl) (by kernel_rfl) rfl (by omega) (by omega) ?_)
      refine Xg.ops_op (by kernel_rfl) (Xg.opx_store_own_i (a := ma) (off := cn) (kd := .u8) (xs := M) (e := v) 2 (by kernel_rfl) rfl (by kernel_rfl) (by kernel_rfl) (by first | omega | (simp only [List.length_set]; omega)) ?_)
      refine Xg.ops_nil ?_
      refine Xg.at_end_ps (v := (tu)) [0, 1, 2, 3] [CR p h ra rn rc ma mn mc (V5 mb), bts ra rn rc R, ownS (5 : TypeId) (1 : Nat) (Value.slice ma mn mc) mn (List.map (Value.int IntKind.u8) (M.set cn v)), MR5 mb r] Go.Proofs.Tryd.func13 (fun _ => by kernel_rfl) (by kernel_rfl) (by kernel_rfl) ?_
      exact ⟨by kernel_rfl, by kernel_rfl⟩)
  · (focus
      refine Xg.spec_of Go.Proofs.Tryd.func13 rfl Go.Proofs.Tryd.ntmps13 fun g F => ?_)
    (focus
      refine Xg.at_seq ?_
      refine Xg.at_seq ?_
      refine Xg.at_region ?_
      refine Xg.ops_op (by kernel_rfl) (Xg.opx_pure ((iv a)) rfl (fun _ => by kernel_rfl) ?_)
      refine Xg.ops_op (by kernel_rfl) (Xg.opx_pure (.bool (decide ((a : Int) ≥ ((0 : Int))))) rfl (fun _ => by kernel_rfl) ?_)
      refine Xg.ops_op (by kernel_rfl) (Xg.opx_pure ((Value.bool (decide (a ≥ (0 : Int))))) rfl (fun _ => by kernel_rfl) ?_)
      refine Xg.ops_flag (j := 9) (c := (decide (a ≥ (0 : Int)))) (by kernel_rfl) (fun _ => ?_) (fun xh1 => absurd (of_decide_eq_false xh1) (by omega))
      refine Xg.ops_op (by kernel_rfl) (Xg.opx_pure ((iv a)) rfl (fun _ => by kernel_rfl) ?_)
      refine Xg.ops_op (by kernel_rfl) (Xg.opx_pure (.bool (decide ((a : Int) < ((32768 : Int))))) rfl (fun _ => by kernel_rfl) ?_)
      refine Xg.ops_flag (j := 11) (c := (decide (a < (32768 : Int)))) (by kernel_rfl) (fun xh1 => absurd (of_decide_eq_true xh1) (by omega)) (fun _ => ?_)
      refine Xg.ops_op (by kernel_rfl) (Xg.opx_pure ((Value.bool false)) rfl (fun _ => by kernel_rfl) ?_)
      refine Xg.ops_nil ?_
      refine Xg.at_false (t := false) (by kernel_rfl) rfl ?_
      refine Xg.at_skip ?_
      refine Xg.at_seq ?_
      refine Xg.at_region ?_
      refine Xg.ops_op (by kernel_rfl) (Xg.opx_pure ((pv p 0)) rfl (fun _ => by kernel_rfl) ?_)
      refine Xg.ops_op (by kernel_rfl) (Xg.opx_pure ((iv a)) rfl (fun _ => by kernel_rfl) ?_)
      refine Xg.ops_op (by kernel_rfl) (Xg.opx_call1' [0, 1, 2, 3] [CR p h ra rn rc ma mn mc (V5 mb), bts ra rn rc R, bts ma mn mc M, MR5 mb r] (fun _ => by kernel_rfl) (@hce ) (by kernel_rfl) (by kernel_rfl) (by kernel_rfl) ?_)
      refine Xg.ops_op (by kernel_rfl) (Xg.opx_pure ((iv (↑cn : Int))) rfl (fun _ => by kernel_rfl) ?_)
      refine Xg.ops_nil ?_
      refine Xg.at_seq ?_
      refine Xg.at_seq ?_
      refine Xg.at_region ?_
      refine Xg.ops_op (by kernel_rfl) (Xg.opx_pure ((iv (↑cn : Int))) rfl (fun _ => by kernel_rfl) ?_)
      refine Xg.ops_op (by kernel_rfl) (Xg.opx_pure (.bool (decide ((((↑cn : Int)) : Int) < ((0 : Int))))) rfl (fun _ => by kernel_rfl) ?_)
      refine Xg.ops_nil ?_
      refine Xg.at_false (t := false) (by kernel_rfl) rfl ?_
      refine Xg.at_skip ?_
      refine Xg.at_seq ?_
      refine Xg.at_seq ?_
      refine Xg.at_region ?_
      refine Xg.ops_op (by kernel_rfl) (Xg.opx_pure ((pv p 0)) rfl (fun _ => by kernel_rfl) ?_)
      refine Xg.ops_op (by kernel_rfl) (Xg.opx_pure ((pv p 0)) rfl (fun _ => by kernel_rfl) ?_)
      refine Xg.ops_op (by kernel_rfl) (Xg.opx_pure ((pv p 0)) rfl (fun _ => by kernel_rfl) ?_)
      refine Xg.ops_op (by kernel_rfl) (Xg.opx_pure ((pv p 2)) rfl (fun _ => by kernel_rfl) ?_)
      refine Xg.ops_op (by kernel_rfl) (Xg.opx_load (b := p) (off := ((2 : Nat))) 0 (iv h.mp) rfl (by kernel_rfl) (by kernel_rfl) (by kernel_rfl) ?_)
      refine Xg.ops_op (by kernel_rfl) (Xg.opx_pure (.bool (decide ((h.mp : Int) = ((2 : Int))))) rfl (fun _ => by kernel_rfl) ?_)
      refine Xg.ops_nil ?_
      refine Xg.at_false (t := decide ((h.mp = (2 : Int)))) (by kernel_rfl) (decide_eq_false (by omega)) ?_
      refine Xg.at_skip ?_
      refine Xg.at_region ?_
      refine Xg.ops_op (by kernel_rfl) (Xg.opx_pure ((pv p 0)) rfl (fun _ => by kernel_rfl) ?_)
      refine Xg.ops_op (by kernel_rfl) (Xg.opx_pure ((pv p 0)) rfl (fun _ => by kernel_rfl) ?_)
      refine Xg.ops_op (by kernel_rfl) (Xg.opx_pure ((pv p 7)) rfl (fun _ => by kernel_rfl) ?_)
      refine Xg.ops_op (by kernel_rfl) (Xg.opx_load (b := p) (off := ((7 : Nat))) 0 (Value.slice ma mn mc) rfl (by kernel_rfl) (by kernel_rfl) (by kernel_rfl) ?_)
      refine Xg.ops_op (by kernel_rfl) (Xg.opx_pure ((iv (↑cn : Int))) rfl (fun _ => by kernel_rfl) ?_)
      refine Xg.ops_op (by kernel_rfl) (Xg.opx_pure ((uv v)) rfl (fun _ => by kernel_rfl) ?_)
      refine Xg.ops_op (by kernel_rfl) (Xg.opx_ix_own (elem := 5) (kd := .i64) (e := ((↑cn : Int))) 2 1 cn cn rfl (by kernel_rfl) (by kernel_rfl) (by kernel_rfl) (by kernel_rfl) rfl (by omega) (by omega) ?_)
      refine Xg.ops_op (by kernel_rfl) (Xg.opx_store_own_i (a := ma) (off := cn) (kd := .u8) (xs := M) (e := v) 2 (by kernel_rfl) rfl (by kernel_rfl) (by kernel_rfl) (by first | omega | (simp only [List.length_set]; omega)) ?_)
      refine Xg.ops_nil ?_
      refine Xg.at_end_ps (v := (tu)) [0, 1, 2, 3] [CR p h ra rn rc ma mn mc (V5 mb), bts ra rn rc R, ownS (5 : TypeId) (1 : Nat) (Value.slice ma mn mc) mn (List.map (Value.int IntKind.u8) (M.set cn v)), MR5 mb r] Go.Proofs.Tryd.func13 (fun _ => by kernel_rfl) (by kernel_rfl) (by kernel_rfl) ?_
      exact ⟨by kernel_rfl, by kernel_rfl⟩)
end Go.Proofs.YthjhkondmobaeaaDoor
