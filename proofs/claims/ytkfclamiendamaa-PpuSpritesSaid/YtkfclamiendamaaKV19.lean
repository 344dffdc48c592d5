/- The picture's functions: a Tick. -/
import Derived.Test.YtkfclamiendamaaKV18
import Derived.Test.YtkfclamiendamaaKS
import Derived.Test.YtkfclamiendamaaKV20
namespace Go.Proofs.Ytkfclamiendamaa
open Go.Sl Go.Xg
set_option linter.unusedVariables false
set_option linter.unusedSimpArgs false
set_option maxHeartbeats 4000000
set_option maxRecDepth 100000

set_option maxHeartbeats 0 in
theorem tick_80a (p : Nat) (σ : Pp) (hσ : σ.Ok) (hon : hasB (σ.regs 0) 7 = true) (hc : σ.clock = 76) (hs : σ.regs 4 < 144 ∧ σ.regs 4 = σ.regs 10) : Does Try.prog 38 [pt p] [PpR p σ] (Ret (.int .i64 (tickA σ)) [PpR p (tickP σ)]) := by
  have h0 := hσ.wf.regs 0
  have h4 := hσ.wf.regs 4
  have h10 := hσ.wf.regs 10
  have hly := hσ.wf.ly
  have hcl := hσ.wf.clock
  have hrw := hσ.rowsLy
  have hok := ok_next hσ
  have ho : Does Try.prog 57 [pt p] [PpR p σ] (Ret (.bool true) [PpR p σ]) := by
    have := on_d p σ h0
    rwa [hon] at this
  obtain ⟨was, hwas⟩ : ∃ b, lineB σ = b := ⟨_, rfl⟩
  have hl : Does Try.prog 58 [pt p] [PpR p σ] (Ret (.bool was) [PpR p σ]) := by
    have := lineQ_d p σ hσ.wf
    rwa [hwas] at this
  obtain ⟨G, hG⟩ : ∃ G, nextP σ = G := ⟨_, rfl⟩
  rw [hG] at hok
  obtain ⟨is, his⟩ : ∃ b, lineB G = b := ⟨_, rfl⟩
  have hA : tickA σ = askI was is 0 := by
    have e : (if σ.clock = 452 ∧ σ.regs 4 = 143 then (1 : Int) else 0) = 0 := by first | exact if_pos (by omega) | exact if_neg (by omega)
    unfold tickA askI
    rw [if_pos hon, e, hwas, hG, his]
    split <;> omega
  rw [show tickP σ = nextP σ from by unfold tickP; simp [hon], hA, hG]
  have hl2 : Does Try.prog 58 [pt p] [PpR p G] (Ret (.bool is) [PpR p G]) := by
    have := lineQ_d p G hok.wf
    rwa [his] at this
  have e : G = { σ with clock := σ.clock + 4, seen := true } := by
    rw [← hG]
    unfold nextP
    (repeat' split) <;> first | rfl | (exfalso; omega)
  clear hG hA hok
  subst e
  (focus
    refine Xg.spec_of Go.Proofs.Try.func38 rfl Go.Proofs.Try.ntmps38 fun g F => ?_)
  (focus
    refine Xg.at_seq ?_
    refine Xg.at_region ?_
    refine Xg.ops_op (by kernel_rfl) (Xg.opx_pure ((iv 0)) rfl (fun _ => by kernel_rfl) ?_)
    refine Xg.ops_nil ?_
    refine Xg.at_seq ?_
    refine Xg.at_seq ?_
    refine Xg.at_region ?_
    refine Xg.ops_op (by kernel_rfl) (Xg.opx_pure ((pv p 0)) rfl (fun _ => by kernel_rfl) ?_)
    refine Xg.ops_op (by kernel_rfl) (Xg.opx_call1' [0] [PpR p σ] (fun _ => by kernel_rfl) (@ho ) (by kernel_rfl) (by kernel_rfl) (by kernel_rfl) ?_)
    refine Xg.ops_op (by kernel_rfl) (Xg.opx_pure (.bool false) rfl (fun _ => by kernel_rfl) ?_)
    refine Xg.ops_nil ?_
    refine Xg.at_false (t := false) (by kernel_rfl) rfl ?_
    refine Xg.at_skip ?_
    refine Xg.at_seq ?_
    refine Xg.at_region ?_
    refine Xg.ops_op (by kernel_rfl) (Xg.opx_pure ((pv p 0)) rfl (fun _ => by kernel_rfl) ?_)
    refine Xg.ops_op (by kernel_rfl) (Xg.opx_call1' [0] [PpR p σ] (fun _ => by kernel_rfl) (@hl ) (by kernel_rfl) (by kernel_rfl) (by kernel_rfl) ?_)
    refine Xg.ops_op (by kernel_rfl) (Xg.opx_pure ((Value.bool was)) rfl (fun _ => by kernel_rfl) ?_)
    refine Xg.ops_nil ?_
    refine Xg.at_seq ?_
    refine Xg.at_region ?_
    refine Xg.ops_op (by kernel_rfl) (Xg.opx_pure ((iv 0)) rfl (fun _ => by kernel_rfl) ?_)
    refine Xg.ops_nil ?_
    refine Xg.at_seq ?_
    refine Xg.at_region ?_
    refine Xg.ops_op (by kernel_rfl) (Xg.opx_pure ((pv p 0)) rfl (fun _ => by kernel_rfl) ?_)
    refine Xg.ops_op (by kernel_rfl) (Xg.opx_pure ((pv p 0)) rfl (fun _ => by kernel_rfl) ?_)
    refine Xg.ops_op (by kernel_rfl) (Xg.opx_pure ((pv p 8364)) rfl (fun _ => by kernel_rfl) ?_)
    refine Xg.ops_op (by kernel_rfl) (Xg.opx_load (b := p) (off := ((8364 : Nat))) 0 (iv σ.clock) rfl (by kernel_rfl) (@Go.Proofs.Ytkfclamiendamaa.g_clock (σ)) (by kernel_rfl) ?_)
    refine Xg.ops_op (by kernel_rfl) (Xg.opx_int .i64 (IntKind.wrap .i64 ((σ.clock + (4 : Int)))) rfl (fun _ => by kernel_rfl) (Xg.wrap_i64_in (by omega)) ?_)
    refine Xg.ops_op (by kernel_rfl) (Xg.opx_pure ((pv p 0)) rfl (fun _ => by kernel_rfl) ?_)
    refine Xg.ops_op (by kernel_rfl) (Xg.opx_pure ((pv p 8364)) rfl (fun _ => by kernel_rfl) ?_)
    refine Xg.ops_op (by kernel_rfl) (Xg.opx_store_c (off := ((8364 : Nat))) (cs' := (ppc (Pp.mk σ.regs σ.vram σ.oam (σ.clock + (4 : Int)) σ.seen σ.rows σ.now σ.last))) 0 (iv (σ.clock + (4 : Int))) (by kernel_rfl) rfl (by kernel_rfl) (by kernel_rfl) (by kernel_rfl) (@Go.Proofs.Ytkfclamiendamaa.s_clock (σ) ((σ.clock + (4 : Int)))) ?_)
    refine Xg.ops_nil ?_
    refine Xg.at_seq ?_
    refine Xg.at_seq ?_
    refine Xg.at_region ?_
    refine Xg.ops_op (by kernel_rfl) (Xg.opx_pure ((pv p 0)) rfl (fun _ => by kernel_rfl) ?_)
    refine Xg.ops_op (by kernel_rfl) (Xg.opx_pure ((pv p 0)) rfl (fun _ => by kernel_rfl) ?_)
    refine Xg.ops_op (by kernel_rfl) (Xg.opx_pure ((pv p 8364)) rfl (fun _ => by kernel_rfl) ?_)
    refine Xg.ops_op (by kernel_rfl) (Xg.opx_load (b := p) (off := ((8364 : Nat))) 0 (iv (σ.clock + (4 : Int))) rfl (by kernel_rfl) (@Go.Proofs.Ytkfclamiendamaa.g_clock ((Pp.mk σ.regs σ.vram σ.oam (σ.clock + (4 : Int)) σ.seen σ.rows σ.now σ.last))) (by kernel_rfl) ?_)
    refine Xg.ops_nil ?_
    refine Xg.at_block ?_
    refine Xg.at_seq ?_
    refine Xg.at_region ?_
    refine Xg.ops_op (by kernel_rfl) (Xg.opx_pure (.bool (decide (((σ.clock + (4 : Int)) : Int) = ((80 : Int))))) rfl (fun _ => by kernel_rfl) ?_)
    refine Xg.ops_op (by kernel_rfl) (Xg.opx_pure ((Value.bool (decide (σ.clock + (4 : Int) = (80 : Int))))) rfl (fun _ => by kernel_rfl) ?_)
    refine Xg.ops_nil ?_
    refine Xg.at_true (t := decide ((σ.clock + (4 : Int) = (80 : Int)))) (by kernel_rfl) (decide_eq_true (by omega)) ?_
    refine Xg.at_seq ?_
    refine Xg.at_draw [] [(4, [0, 1, 2, 3, 4], Xg.CellIs (p) (((4 : Nat))) ((iv (σ.regs 4)))), (11, [0, 1, 2, 3, 4, 5, 6, 7, 8, 9, 10, 11, 12, 13, 14, 15, 16], Xg.CellIs (p) (((4 : Nat))) ((iv (σ.regs 4)))), (16, [0, 1, 2, 3, 4, 5, 6, 7, 8, 9, 10, 11, 12, 13, 14, 15, 16], Xg.CellIs (p) (((10 : Nat))) ((iv (σ.regs 10))))] (by kernel_rfl) ?_
    refine Xg.any_pure ((pv p 0)) 0 (by kernel_rfl) rfl (by kernel_rfl) (by kernel_rfl) (by kernel_rfl) (by kernel_rfl) rfl (fun _ => by kernel_rfl) ?_
    refine Xg.any_pure ((pv p 0)) 1 (by kernel_rfl) rfl (by kernel_rfl) (by kernel_rfl) (by kernel_rfl) (by kernel_rfl) rfl (fun _ => by kernel_rfl) ?_
    refine Xg.any_pure ((pv p 0)) 2 (by kernel_rfl) rfl (by kernel_rfl) (by kernel_rfl) (by kernel_rfl) (by kernel_rfl) rfl (fun _ => by kernel_rfl) ?_
    refine Xg.any_pure (pv p 4) 3 (by kernel_rfl) rfl (by kernel_rfl) (by kernel_rfl) (by kernel_rfl) (by kernel_rfl) rfl (fun _ => by kernel_rfl) ?_
    refine Xg.any_reads (iv (σ.regs 4)) 4 0 (by kernel_rfl) rfl (by kernel_rfl) (by kernel_rfl) (by kernel_rfl) (by kernel_rfl) rfl rfl (by kernel_rfl) (Xg.cell_now (b := p) (off := ((4 : Nat))) 0 rfl (@Go.Proofs.Ytkfclamiendamaa.g_regs ((Pp.mk σ.regs σ.vram σ.oam (σ.clock + (4 : Int)) σ.seen σ.rows σ.now σ.last)) (((4 : Nat))) (by omega))) (fun _ h => Xg.run_load (by kernel_rfl) (by kernel_rfl) h) ?_
    refine Xg.any_pure (.bool (decide (((σ.regs 4) : Int) < ((144 : Int))))) 5 (by kernel_rfl) rfl (by kernel_rfl) (by kernel_rfl) (by kernel_rfl) (by kernel_rfl) rfl (fun _ => by kernel_rfl) ?_
    refine Xg.any_pure ((Value.bool (decide (σ.regs 4 < (144 : Int))))) 6 (by kernel_rfl) rfl (by kernel_rfl) (by kernel_rfl) (by kernel_rfl) (by kernel_rfl) rfl (fun _ => by kernel_rfl) ?_
    refine Xg.any_flag (j := 29) (c := (decide (σ.regs 4 < (144 : Int)))) (by kernel_rfl) (fun _ => ?_) (fun xh1 => absurd (of_decide_eq_false xh1) (by omega))
    refine Xg.any_pure ((pv p 0)) 7 (by kernel_rfl) rfl (by kernel_rfl) (by kernel_rfl) (by kernel_rfl) (by kernel_rfl) rfl (fun _ => by kernel_rfl) ?_
    refine Xg.any_pure ((pv p 0)) 8 (by kernel_rfl) rfl (by kernel_rfl) (by kernel_rfl) (by kernel_rfl) (by kernel_rfl) rfl (fun _ => by kernel_rfl) ?_
    refine Xg.any_pure ((pv p 0)) 9 (by kernel_rfl) rfl (by kernel_rfl) (by kernel_rfl) (by kernel_rfl) (by kernel_rfl) rfl (fun _ => by kernel_rfl) ?_
    refine Xg.any_pure (pv p 4) 10 (by kernel_rfl) rfl (by kernel_rfl) (by kernel_rfl) (by kernel_rfl) (by kernel_rfl) rfl (fun _ => by kernel_rfl) ?_
    refine Xg.any_reads (iv (σ.regs 4)) 11 1 (by kernel_rfl) rfl (by kernel_rfl) (by kernel_rfl) (by kernel_rfl) (by kernel_rfl) rfl rfl (by kernel_rfl) (Xg.cell_now (b := p) (off := ((4 : Nat))) 0 rfl (@Go.Proofs.Ytkfclamiendamaa.g_regs ((Pp.mk σ.regs σ.vram σ.oam (σ.clock + (4 : Int)) σ.seen σ.rows σ.now σ.last)) (((4 : Nat))) (by omega))) (fun _ h => Xg.run_load (by kernel_rfl) (by kernel_rfl) h) ?_
    refine Xg.any_pure ((pv p 0)) 12 (by kernel_rfl) rfl (by kernel_rfl) (by kernel_rfl) (by kernel_rfl) (by kernel_rfl) rfl (fun _ => by kernel_rfl) ?_
    refine Xg.any_pure ((pv p 0)) 13 (by kernel_rfl) rfl (by kernel_rfl) (by kernel_rfl) (by kernel_rfl) (by kernel_rfl) rfl (fun _ => by kernel_rfl) ?_
    refine Xg.any_pure ((pv p 0)) 14 (by kernel_rfl) rfl (by kernel_rfl) (by kernel_rfl) (by kernel_rfl) (by kernel_rfl) rfl (fun _ => by kernel_rfl) ?_
    refine Xg.any_pure (pv p 10) 15 (by kernel_rfl) rfl (by kernel_rfl) (by kernel_rfl) (by kernel_rfl) (by kernel_rfl) rfl (fun _ => by kernel_rfl) ?_
    refine Xg.any_reads (iv (σ.regs 10)) 16 2 (by kernel_rfl) rfl (by kernel_rfl) (by kernel_rfl) (by kernel_rfl) (by kernel_rfl) rfl rfl (by kernel_rfl) (Xg.cell_now (b := p) (off := ((10 : Nat))) 0 rfl (@Go.Proofs.Ytkfclamiendamaa.g_regs ((Pp.mk σ.regs σ.vram σ.oam (σ.clock + (4 : Int)) σ.seen σ.rows σ.now σ.last)) (((10 : Nat))) (by omega))) (fun _ h => Xg.run_load (by kernel_rfl) (by kernel_rfl) h) ?_
    refine Xg.any_pure (.bool (decide (((σ.regs 4) : Int) = (σ.regs 10)))) 17 (by kernel_rfl) rfl (by kernel_rfl) (by kernel_rfl) (by kernel_rfl) (by kernel_rfl) rfl (fun _ => by kernel_rfl) ?_
    refine Xg.any_flag (j := 40) (c := (decide (σ.regs 4 = σ.regs 10))) (by kernel_rfl) (fun _ => ?_) (fun xh1 => absurd (of_decide_eq_false xh1) (by omega))
    refine Xg.any_pure ((Value.bool true)) 18 (by kernel_rfl) rfl (by kernel_rfl) (by kernel_rfl) (by kernel_rfl) (by kernel_rfl) rfl (fun _ => by kernel_rfl) ?_
    refine Xg.any_nil (by kernel_rfl) ?_
    refine Xg.at_true (t := true) (by kernel_rfl) rfl ?_
    refine Xg.at_region ?_
    refine Xg.ops_op (by kernel_rfl) (Xg.opx_pure ((pv p 0)) rfl (fun _ => by kernel_rfl) ?_)
    refine Xg.ops_op (by kernel_rfl) (Xg.opx_pure ((pv p 0)) rfl (fun _ => by kernel_rfl) ?_)
    refine Xg.ops_op (by kernel_rfl) (Xg.opx_pure ((pv p 8365)) rfl (fun _ => by kernel_rfl) ?_)
    refine Xg.ops_op (by kernel_rfl) (Xg.opx_store_c (off := ((8365 : Nat))) (cs' := (ppc (Pp.mk σ.regs σ.vram σ.oam (σ.clock + (4 : Int)) true σ.rows σ.now σ.last))) 0 (Value.bool true) (by kernel_rfl) rfl (by kernel_rfl) (by kernel_rfl) (by kernel_rfl) (@Go.Proofs.Ytkfclamiendamaa.s_seen ((Pp.mk σ.regs σ.vram σ.oam (σ.clock + (4 : Int)) σ.seen σ.rows σ.now σ.last)) (true)) ?_)
    refine Xg.ops_nil ?_
    refine Xg.at_inBlock ?_
    refine Xg.at_seq ?_
    refine Xg.at_seq ?_
    refine Xg.at_region ?_
    refine Xg.ops_op (by kernel_rfl) (Xg.opx_pure ((Value.bool was)) rfl (fun _ => by kernel_rfl) ?_)
    refine Xg.ops_op (by kernel_rfl) (Xg.opx_pure (.bool (!was)) rfl (fun _ => by kernel_rfl) ?_)
    refine Xg.ops_op (by kernel_rfl) (Xg.opx_pure ((Value.bool !was)) rfl (fun _ => by kernel_rfl) ?_)
    refine Xg.ops_flag (j := 89) (c := !was) (by kernel_rfl) (fun xh1 => ?_) (fun xh1 => ?_)
    replace xh1 : was = false := by simpa using xh1
    rotate_left
    replace xh1 : was = true := by simpa using xh1
    rotate_right
    refine Xg.ops_op (by kernel_rfl) (Xg.opx_pure ((pv p 0)) rfl (fun _ => by kernel_rfl) ?_)
    refine Xg.ops_op (by kernel_rfl) (Xg.opx_call1' [0] [PpR p (Pp.mk σ.regs σ.vram σ.oam (σ.clock + (4 : Int)) true σ.rows σ.now σ.last)] (fun _ => by kernel_rfl) (@hl2 ) (by kernel_rfl) (by kernel_rfl) (by kernel_rfl) ?_)
    refine Xg.ops_flag (j := 91) (c := is) (by kernel_rfl) (fun xh2 => ?_) (fun xh2 => ?_)
    refine Xg.ops_op (by kernel_rfl) (Xg.opx_pure ((Value.bool true)) rfl (fun _ => by kernel_rfl) ?_)
    refine Xg.ops_nil ?_
    refine Xg.at_true (t := true) (by kernel_rfl) rfl ?_
    refine Xg.at_region ?_
    refine Xg.ops_op (by kernel_rfl) (Xg.opx_pure ((iv 0)) rfl (fun _ => by kernel_rfl) ?_)
    refine Xg.ops_op (by kernel_rfl) (Xg.opx_pure ((iv 2)) rfl (fun _ => by kernel_rfl) ?_)
    refine Xg.ops_op (by kernel_rfl) (Xg.opx_pure ((iv 2)) rfl (fun _ => by kernel_rfl) ?_)
    refine Xg.ops_nil ?_
    refine Xg.at_seq ?_
    refine Xg.at_region ?_
    refine Xg.ops_op (by kernel_rfl) (Xg.opx_pure ((iv 2)) rfl (fun _ => by kernel_rfl) ?_)
    refine Xg.ops_op (by kernel_rfl) (Xg.opx_pure ((iv 2)) rfl (fun _ => by kernel_rfl) ?_)
    refine Xg.ops_nil ?_
    refine Xg.at_ret_ps (v := (iv 2)) [0] [PpR p (Pp.mk σ.regs σ.vram σ.oam (σ.clock + (4 : Int)) true σ.rows σ.now σ.last)] Go.Proofs.Try.func38 (fun _ => by kernel_rfl) (by kernel_rfl) (by kernel_rfl) ?_
    rotate_left
    refine Xg.ops_op (by kernel_rfl) (Xg.opx_pure ((Value.bool false)) rfl (fun _ => by kernel_rfl) ?_)
    refine Xg.ops_nil ?_
    refine Xg.at_false (t := false) (by kernel_rfl) rfl ?_
    refine Xg.at_skip ?_
    refine Xg.at_seq ?_
    refine Xg.at_region ?_
    refine Xg.ops_op (by kernel_rfl) (Xg.opx_pure ((iv 0)) rfl (fun _ => by kernel_rfl) ?_)
    refine Xg.ops_op (by kernel_rfl) (Xg.opx_pure ((iv 0)) rfl (fun _ => by kernel_rfl) ?_)
    refine Xg.ops_nil ?_
    refine Xg.at_ret_ps (v := (iv 0)) [0] [PpR p (Pp.mk σ.regs σ.vram σ.oam (σ.clock + (4 : Int)) true σ.rows σ.now σ.last)] Go.Proofs.Try.func38 (fun _ => by kernel_rfl) (by kernel_rfl) (by kernel_rfl) ?_
    rotate_left
    refine Xg.ops_skip (by kernel_rfl) ?_
    refine Xg.ops_skip (by kernel_rfl) ?_
    refine Xg.ops_op (by kernel_rfl) (Xg.opx_pure ((Value.bool false)) rfl (fun _ => by kernel_rfl) ?_)
    refine Xg.ops_nil ?_
    refine Xg.at_false (t := false) (by kernel_rfl) rfl ?_
    refine Xg.at_skip ?_
    refine Xg.at_seq ?_
    refine Xg.at_region ?_
    refine Xg.ops_op (by kernel_rfl) (Xg.opx_pure ((iv 0)) rfl (fun _ => by kernel_rfl) ?_)
    refine Xg.ops_op (by kernel_rfl) (Xg.opx_pure ((iv 0)) rfl (fun _ => by kernel_rfl) ?_)
    refine Xg.ops_nil ?_
    refine Xg.at_ret_ps (v := (iv 0)) [0] [row p (77 : TypeId) (ppc (Pp.mk σ.regs σ.vram σ.oam (σ.clock + (4 : Int)) true σ.rows σ.now σ.last))] Go.Proofs.Try.func38 (fun _ => by kernel_rfl) (by kernel_rfl) (by kernel_rfl) ?_)
  all_goals exact ⟨by first | rfl | (simp [askI, *]; done) | (simp [askI, *]; decide), rfl⟩

set_option maxHeartbeats 0 in
theorem tick_80b (p : Nat) (σ : Pp) (hσ : σ.Ok) (hon : hasB (σ.regs 0) 7 = true) (hc : σ.clock = 76) (hs : ¬ (σ.regs 4 < 144 ∧ σ.regs 4 = σ.regs 10)) : Does Try.prog 38 [pt p] [PpR p σ] (Ret (.int .i64 (tickA σ)) [PpR p (tickP σ)]) := by
  have h0 := hσ.wf.regs 0
  have h4 := hσ.wf.regs 4
  have h10 := hσ.wf.regs 10
  have hly := hσ.wf.ly
  have hcl := hσ.wf.clock
  have hrw := hσ.rowsLy
  have hok := ok_next hσ
  have ho : Does Try.prog 57 [pt p] [PpR p σ] (Ret (.bool true) [PpR p σ]) := by
    have := on_d p σ h0
    rwa [hon] at this
  obtain ⟨was, hwas⟩ : ∃ b, lineB σ = b := ⟨_, rfl⟩
  have hl : Does Try.prog 58 [pt p] [PpR p σ] (Ret (.bool was) [PpR p σ]) := by
    have := lineQ_d p σ hσ.wf
    rwa [hwas] at this
  obtain ⟨G, hG⟩ : ∃ G, nextP σ = G := ⟨_, rfl⟩
  rw [hG] at hok
  obtain ⟨is, his⟩ : ∃ b, lineB G = b := ⟨_, rfl⟩
  have hA : tickA σ = askI was is 0 := by
    have e : (if σ.clock = 452 ∧ σ.regs 4 = 143 then (1 : Int) else 0) = 0 := by first | exact if_pos (by omega) | exact if_neg (by omega)
    unfold tickA askI
    rw [if_pos hon, e, hwas, hG, his]
    split <;> omega
  rw [show tickP σ = nextP σ from by unfold tickP; simp [hon], hA, hG]
  have hl2 : Does Try.prog 58 [pt p] [PpR p G] (Ret (.bool is) [PpR p G]) := by
    have := lineQ_d p G hok.wf
    rwa [his] at this
  have e : G = { σ with clock := σ.clock + 4 } := by
    rw [← hG]
    unfold nextP
    (repeat' split) <;> first | rfl | (exfalso; omega)
  clear hG hA hok
  subst e
  (focus
    refine Xg.spec_of Go.Proofs.Try.func38 rfl Go.Proofs.Try.ntmps38 fun g F => ?_)
  (focus
    refine Xg.at_seq ?_
    refine Xg.at_region ?_
    refine Xg.ops_op (by kernel_rfl) (Xg.opx_pure ((iv 0)) rfl (fun _ => by kernel_rfl) ?_)
    refine Xg.ops_nil ?_
    refine Xg.at_seq ?_
    refine Xg.at_seq ?_
    refine Xg.at_region ?_
    refine Xg.ops_op (by kernel_rfl) (Xg.opx_pure ((pv p 0)) rfl (fun _ => by kernel_rfl) ?_)
    refine Xg.ops_op (by kernel_rfl) (Xg.opx_call1' [0] [PpR p σ] (fun _ => by kernel_rfl) (@ho ) (by kernel_rfl) (by kernel_rfl) (by kernel_rfl) ?_)
    refine Xg.ops_op (by kernel_rfl) (Xg.opx_pure (.bool false) rfl (fun _ => by kernel_rfl) ?_)
    refine Xg.ops_nil ?_
    refine Xg.at_false (t := false) (by kernel_rfl) rfl ?_
    refine Xg.at_skip ?_
    refine Xg.at_seq ?_
    refine Xg.at_region ?_
    refine Xg.ops_op (by kernel_rfl) (Xg.opx_pure ((pv p 0)) rfl (fun _ => by kernel_rfl) ?_)
    refine Xg.ops_op (by kernel_rfl) (Xg.opx_call1' [0] [PpR p σ] (fun _ => by kernel_rfl) (@hl ) (by kernel_rfl) (by kernel_rfl) (by kernel_rfl) ?_)
    refine Xg.ops_op (by kernel_rfl) (Xg.opx_pure ((Value.bool was)) rfl (fun _ => by kernel_rfl) ?_)
    refine Xg.ops_nil ?_
    refine Xg.at_seq ?_
    refine Xg.at_region ?_
    refine Xg.ops_op (by kernel_rfl) (Xg.opx_pure ((iv 0)) rfl (fun _ => by kernel_rfl) ?_)
    refine Xg.ops_nil ?_
    refine Xg.at_seq ?_
    refine Xg.at_region ?_
    refine Xg.ops_op (by kernel_rfl) (Xg.opx_pure ((pv p 0)) rfl (fun _ => by kernel_rfl) ?_)
    refine Xg.ops_op (by kernel_rfl) (Xg.opx_pure ((pv p 0)) rfl (fun _ => by kernel_rfl) ?_)
    refine Xg.ops_op (by kernel_rfl) (Xg.opx_pure ((pv p 8364)) rfl (fun _ => by kernel_rfl) ?_)
    refine Xg.ops_op (by kernel_rfl) (Xg.opx_load (b := p) (off := ((8364 : Nat))) 0 (iv σ.clock) rfl (by kernel_rfl) (@Go.Proofs.Ytkfclamiendamaa.g_clock (σ)) (by kernel_rfl) ?_)
    refine Xg.ops_op (by kernel_rfl) (Xg.opx_int .i64 (IntKind.wrap .i64 ((σ.clock + (4 : Int)))) rfl (fun _ => by kernel_rfl) (Xg.wrap_i64_in (by omega)) ?_)
    refine Xg.ops_op (by kernel_rfl) (Xg.opx_pure ((pv p 0)) rfl (fun _ => by kernel_rfl) ?_)
    refine Xg.ops_op (by kernel_rfl) (Xg.opx_pure ((pv p 8364)) rfl (fun _ => by kernel_rfl) ?_)
    refine Xg.ops_op (by kernel_rfl) (Xg.opx_store_c (off := ((8364 : Nat))) (cs' := (ppc (Pp.mk σ.regs σ.vram σ.oam (σ.clock + (4 : Int)) σ.seen σ.rows σ.now σ.last))) 0 (iv (σ.clock + (4 : Int))) (by kernel_rfl) rfl (by kernel_rfl) (by kernel_rfl) (by kernel_rfl) (@Go.Proofs.Ytkfclamiendamaa.s_clock (σ) ((σ.clock + (4 : Int)))) ?_)
    refine Xg.ops_nil ?_
    refine Xg.at_seq ?_
    refine Xg.at_seq ?_
    refine Xg.at_region ?_
    refine Xg.ops_op (by kernel_rfl) (Xg.opx_pure ((pv p 0)) rfl (fun _ => by kernel_rfl) ?_)
    refine Xg.ops_op (by kernel_rfl) (Xg.opx_pure ((pv p 0)) rfl (fun _ => by kernel_rfl) ?_)
    refine Xg.ops_op (by kernel_rfl) (Xg.opx_pure ((pv p 8364)) rfl (fun _ => by kernel_rfl) ?_)
    refine Xg.ops_op (by kernel_rfl) (Xg.opx_load (b := p) (off := ((8364 : Nat))) 0 (iv (σ.clock + (4 : Int))) rfl (by kernel_rfl) (@Go.Proofs.Ytkfclamiendamaa.g_clock ((Pp.mk σ.regs σ.vram σ.oam (σ.clock + (4 : Int)) σ.seen σ.rows σ.now σ.last))) (by kernel_rfl) ?_)
    refine Xg.ops_nil ?_
    refine Xg.at_block ?_
    refine Xg.at_seq ?_
    refine Xg.at_region ?_
    refine Xg.ops_op (by kernel_rfl) (Xg.opx_pure (.bool (decide (((σ.clock + (4 : Int)) : Int) = ((80 : Int))))) rfl (fun _ => by kernel_rfl) ?_)
    refine Xg.ops_op (by kernel_rfl) (Xg.opx_pure ((Value.bool (decide (σ.clock + (4 : Int) = (80 : Int))))) rfl (fun _ => by kernel_rfl) ?_)
    refine Xg.ops_nil ?_
    refine Xg.at_true (t := decide ((σ.clock + (4 : Int) = (80 : Int)))) (by kernel_rfl) (decide_eq_true (by omega)) ?_
    refine Xg.at_seq ?_
    refine Xg.at_draw [] [(4, [0, 1, 2, 3, 4], Xg.CellIs (p) (((4 : Nat))) ((iv (σ.regs 4)))), (11, [0, 1, 2, 3, 4, 5, 6, 7, 8, 9, 10, 11, 12, 13, 14, 15, 16], Xg.CellIs (p) (((4 : Nat))) ((iv (σ.regs 4)))), (16, [0, 1, 2, 3, 4, 5, 6, 7, 8, 9, 10, 11, 12, 13, 14, 15, 16], Xg.CellIs (p) (((10 : Nat))) ((iv (σ.regs 10))))] (by kernel_rfl) ?_
    refine Xg.any_pure ((pv p 0)) 0 (by kernel_rfl) rfl (by kernel_rfl) (by kernel_rfl) (by kernel_rfl) (by kernel_rfl) rfl (fun _ => by kernel_rfl) ?_
    refine Xg.any_pure ((pv p 0)) 1 (by kernel_rfl) rfl (by kernel_rfl) (by kernel_rfl) (by kernel_rfl) (by kernel_rfl) rfl (fun _ => by kernel_rfl) ?_
    refine Xg.any_pure ((pv p 0)) 2 (by kernel_rfl) rfl (by kernel_rfl) (by kernel_rfl) (by kernel_rfl) (by kernel_rfl) rfl (fun _ => by kernel_rfl) ?_
    refine Xg.any_pure (pv p 4) 3 (by kernel_rfl) rfl (by kernel_rfl) (by kernel_rfl) (by kernel_rfl) (by kernel_rfl) rfl (fun _ => by kernel_rfl) ?_
    refine Xg.any_reads (iv (σ.regs 4)) 4 0 (by kernel_rfl) rfl (by kernel_rfl) (by kernel_rfl) (by kernel_rfl) (by kernel_rfl) rfl rfl (by kernel_rfl) (Xg.cell_now (b := p) (off := ((4 : Nat))) 0 rfl (@Go.Proofs.Ytkfclamiendamaa.g_regs ((Pp.mk σ.regs σ.vram σ.oam (σ.clock + (4 : Int)) σ.seen σ.rows σ.now σ.last)) (((4 : Nat))) (by omega))) (fun _ h => Xg.run_load (by kernel_rfl) (by kernel_rfl) h) ?_
    refine Xg.any_pure (.bool (decide (((σ.regs 4) : Int) < ((144 : Int))))) 5 (by kernel_rfl) rfl (by kernel_rfl) (by kernel_rfl) (by kernel_rfl) (by kernel_rfl) rfl (fun _ => by kernel_rfl) ?_
    refine Xg.any_pure ((Value.bool (decide (σ.regs 4 < (144 : Int))))) 6 (by kernel_rfl) rfl (by kernel_rfl) (by kernel_rfl) (by kernel_rfl) (by kernel_rfl) rfl (fun _ => by kernel_rfl) ?_
    refine Xg.any_flag (j := 29) (c := (decide (σ.regs 4 < (144 : Int)))) (by kernel_rfl) (fun xh1 => ?_) (fun xh1 => ?_)
    replace xh1 : (σ.regs (4 : Nat) < (144 : Int)) := of_decide_eq_true xh1
    rotate_left
    replace xh1 : ¬ ((σ.regs (4 : Nat) < (144 : Int))) := of_decide_eq_false xh1
    rotate_right
    refine Xg.any_pure ((pv p 0)) 7 (by kernel_rfl) rfl (by kernel_rfl) (by kernel_rfl) (by kernel_rfl) (by kernel_rfl) rfl (fun _ => by kernel_rfl) ?_
    refine Xg.any_pure ((pv p 0)) 8 (by kernel_rfl) rfl (by kernel_rfl) (by kernel_rfl) (by kernel_rfl) (by kernel_rfl) rfl (fun _ => by kernel_rfl) ?_
    refine Xg.any_pure ((pv p 0)) 9 (by kernel_rfl) rfl (by kernel_rfl) (by kernel_rfl) (by kernel_rfl) (by kernel_rfl) rfl (fun _ => by kernel_rfl) ?_
    refine Xg.any_pure (pv p 4) 10 (by kernel_rfl) rfl (by kernel_rfl) (by kernel_rfl) (by kernel_rfl) (by kernel_rfl) rfl (fun _ => by kernel_rfl) ?_
    refine Xg.any_reads (iv (σ.regs 4)) 11 1 (by kernel_rfl) rfl (by kernel_rfl) (by kernel_rfl) (by kernel_rfl) (by kernel_rfl) rfl rfl (by kernel_rfl) (Xg.cell_now (b := p) (off := ((4 : Nat))) 0 rfl (@Go.Proofs.Ytkfclamiendamaa.g_regs ((Pp.mk σ.regs σ.vram σ.oam (σ.clock + (4 : Int)) σ.seen σ.rows σ.now σ.last)) (((4 : Nat))) (by omega))) (fun _ h => Xg.run_load (by kernel_rfl) (by kernel_rfl) h) ?_
    refine Xg.any_pure ((pv p 0)) 12 (by kernel_rfl) rfl (by kernel_rfl) (by kernel_rfl) (by kernel_rfl) (by kernel_rfl) rfl (fun _ => by kernel_rfl) ?_
    refine Xg.any_pure ((pv p 0)) 13 (by kernel_rfl) rfl (by kernel_rfl) (by kernel_rfl) (by kernel_rfl) (by kernel_rfl) rfl (fun _ => by kernel_rfl) ?_
    refine Xg.any_pure ((pv p 0)) 14 (by kernel_rfl) rfl (by kernel_rfl) (by kernel_rfl) (by kernel_rfl) (by kernel_rfl) rfl (fun _ => by kernel_rfl) ?_
    refine Xg.any_pure (pv p 10) 15 (by kernel_rfl) rfl (by kernel_rfl) (by kernel_rfl) (by kernel_rfl) (by kernel_rfl) rfl (fun _ => by kernel_rfl) ?_
    refine Xg.any_reads (iv (σ.regs 10)) 16 2 (by kernel_rfl) rfl (by kernel_rfl) (by kernel_rfl) (by kernel_rfl) (by kernel_rfl) rfl rfl (by kernel_rfl) (Xg.cell_now (b := p) (off := ((10 : Nat))) 0 rfl (@Go.Proofs.Ytkfclamiendamaa.g_regs ((Pp.mk σ.regs σ.vram σ.oam (σ.clock + (4 : Int)) σ.seen σ.rows σ.now σ.last)) (((10 : Nat))) (by omega))) (fun _ h => Xg.run_load (by kernel_rfl) (by kernel_rfl) h) ?_
    refine Xg.any_pure (.bool (decide (((σ.regs 4) : Int) = (σ.regs 10)))) 17 (by kernel_rfl) rfl (by kernel_rfl) (by kernel_rfl) (by kernel_rfl) (by kernel_rfl) rfl (fun _ => by kernel_rfl) ?_
    refine Xg.any_flag (j := 40) (c := (decide (σ.regs 4 = σ.regs 10))) (by kernel_rfl) (fun xh2 => absurd (of_decide_eq_true xh2) (by omega)) (fun _ => ?_)
    refine Xg.any_pure ((Value.bool false)) 18 (by kernel_rfl) rfl (by kernel_rfl) (by kernel_rfl) (by kernel_rfl) (by kernel_rfl) rfl (fun _ => by kernel_rfl) ?_
    refine Xg.any_nil (by kernel_rfl) ?_
    refine Xg.at_false (t := false) (by kernel_rfl) rfl ?_
    refine Xg.at_skip ?_
    refine Xg.at_inBlock ?_
    refine Xg.at_seq ?_
    refine Xg.at_seq ?_
    refine Xg.at_region ?_
    refine Xg.ops_op (by kernel_rfl) (Xg.opx_pure ((Value.bool was)) rfl (fun _ => by kernel_rfl) ?_)
    refine Xg.ops_op (by kernel_rfl) (Xg.opx_pure (.bool (!was)) rfl (fun _ => by kernel_rfl) ?_)
    refine Xg.ops_op (by kernel_rfl) (Xg.opx_pure ((Value.bool !was)) rfl (fun _ => by kernel_rfl) ?_)
    refine Xg.ops_flag (j := 89) (c := !was) (by kernel_rfl) (fun xh2 => ?_) (fun xh2 => ?_)
    replace xh2 : was = false := by simpa using xh2
    rotate_left
    replace xh2 : was = true := by simpa using xh2
    rotate_right
    refine Xg.ops_op (by kernel_rfl) (Xg.opx_pure ((pv p 0)) rfl (fun _ => by kernel_rfl) ?_)
    refine Xg.ops_op (by kernel_rfl) (Xg.opx_call1' [0] [PpR p (Pp.mk σ.regs σ.vram σ.oam (σ.clock + (4 : Int)) σ.seen σ.rows σ.now σ.last)] (fun _ => by kernel_rfl) (@hl2 ) (by kernel_rfl) (by kernel_rfl) (by kernel_rfl) ?_)
    refine Xg.ops_flag (j := 91) (c := is) (by kernel_rfl) (fun xh3 => ?_) (fun xh3 => ?_)
    refine Xg.ops_op (by kernel_rfl) (Xg.opx_pure ((Value.bool true)) rfl (fun _ => by kernel_rfl) ?_)
    refine Xg.ops_nil ?_
    refine Xg.at_true (t := true) (by kernel_rfl) rfl ?_
    refine Xg.at_region ?_
    refine Xg.ops_op (by kernel_rfl) (Xg.opx_pure ((iv 0)) rfl (fun _ => by kernel_rfl) ?_)
    refine Xg.ops_op (by kernel_rfl) (Xg.opx_pure ((iv 2)) rfl (fun _ => by kernel_rfl) ?_)
    refine Xg.ops_op (by kernel_rfl) (Xg.opx_pure ((iv 2)) rfl (fun _ => by kernel_rfl) ?_)
    refine Xg.ops_nil ?_
    refine Xg.at_seq ?_
    refine Xg.at_region ?_
    refine Xg.ops_op (by kernel_rfl) (Xg.opx_pure ((iv 2)) rfl (fun _ => by kernel_rfl) ?_)
    refine Xg.ops_op (by kernel_rfl) (Xg.opx_pure ((iv 2)) rfl (fun _ => by kernel_rfl) ?_)
    refine Xg.ops_nil ?_
    refine Xg.at_ret_ps (v := (iv 2)) [0] [PpR p (Pp.mk σ.regs σ.vram σ.oam (σ.clock + (4 : Int)) σ.seen σ.rows σ.now σ.last)] Go.Proofs.Try.func38 (fun _ => by kernel_rfl) (by kernel_rfl) (by kernel_rfl) ?_
    rotate_left
    refine Xg.ops_op (by kernel_rfl) (Xg.opx_pure ((Value.bool false)) rfl (fun _ => by kernel_rfl) ?_)
    refine Xg.ops_nil ?_
    refine Xg.at_false (t := false) (by kernel_rfl) rfl ?_
    refine Xg.at_skip ?_
    refine Xg.at_seq ?_
    refine Xg.at_region ?_
    refine Xg.ops_op (by kernel_rfl) (Xg.opx_pure ((iv 0)) rfl (fun _ => by kernel_rfl) ?_)
    refine Xg.ops_op (by kernel_rfl) (Xg.opx_pure ((iv 0)) rfl (fun _ => by kernel_rfl) ?_)
    refine Xg.ops_nil ?_
    refine Xg.at_ret_ps (v := (iv 0)) [0] [PpR p (Pp.mk σ.regs σ.vram σ.oam (σ.clock + (4 : Int)) σ.seen σ.rows σ.now σ.last)] Go.Proofs.Try.func38 (fun _ => by kernel_rfl) (by kernel_rfl) (by kernel_rfl) ?_
    rotate_left
    refine Xg.ops_skip (by kernel_rfl) ?_
    refine Xg.ops_skip (by kernel_rfl) ?_
    refine Xg.ops_op (by kernel_rfl) (Xg.opx_pure ((Value.bool false)) rfl (fun _ => by kernel_rfl) ?_)
    refine Xg.ops_nil ?_
    refine Xg.at_false (t := false) (by kernel_rfl) rfl ?_
    refine Xg.at_skip ?_
    refine Xg.at_seq ?_
    refine Xg.at_region ?_
    refine Xg.ops_op (by kernel_rfl) (Xg.opx_pure ((iv 0)) rfl (fun _ => by kernel_rfl) ?_)
    refine Xg.ops_op (by kernel_rfl) (Xg.opx_pure ((iv 0)) rfl (fun _ => by kernel_rfl) ?_)
    refine Xg.ops_nil ?_
    refine Xg.at_ret_ps (v := (iv 0)) [0] [row p (77 : TypeId) (ppc (Pp.mk σ.regs σ.vram σ.oam (σ.clock + (4 : Int)) σ.seen σ.rows σ.now σ.last))] Go.Proofs.Try.func38 (fun _ => by kernel_rfl) (by kernel_rfl) (by kernel_rfl) ?_
    rotate_left
    refine Xg.any_skip 7 (by kernel_rfl) rfl (by kernel_rfl) (by kernel_rfl) (by kernel_rfl) (by kernel_rfl) ?_
    refine Xg.any_skip 8 (by kernel_rfl) rfl (by kernel_rfl) (by kernel_rfl) (by kernel_rfl) (by kernel_rfl) ?_
    refine Xg.any_skip 9 (by kernel_rfl) rfl (by kernel_rfl) (by kernel_rfl) (by kernel_rfl) (by kernel_rfl) ?_
    refine Xg.any_skip 10 (by kernel_rfl) rfl (by kernel_rfl) (by kernel_rfl) (by kernel_rfl) (by kernel_rfl) ?_
    refine Xg.any_skip 11 (by kernel_rfl) rfl (by kernel_rfl) (by kernel_rfl) (by kernel_rfl) (by kernel_rfl) ?_
    refine Xg.any_skip 12 (by kernel_rfl) rfl (by kernel_rfl) (by kernel_rfl) (by kernel_rfl) (by kernel_rfl) ?_
    refine Xg.any_skip 13 (by kernel_rfl) rfl (by kernel_rfl) (by kernel_rfl) (by kernel_rfl) (by kernel_rfl) ?_
    refine Xg.any_skip 14 (by kernel_rfl) rfl (by kernel_rfl) (by kernel_rfl) (by kernel_rfl) (by kernel_rfl) ?_
    refine Xg.any_skip 15 (by kernel_rfl) rfl (by kernel_rfl) (by kernel_rfl) (by kernel_rfl) (by kernel_rfl) ?_
    refine Xg.any_skip 16 (by kernel_rfl) rfl (by kernel_rfl) (by kernel_rfl) (by kernel_rfl) (by kernel_rfl) ?_
    refine Xg.any_skip 17 (by kernel_rfl) rfl (by kernel_rfl) (by kernel_rfl) (by kernel_rfl) (by kernel_rfl) ?_
    refine Xg.any_pure ((Value.bool false)) 18 (by kernel_rfl) rfl (by kernel_rfl) (by kernel_rfl) (by kernel_rfl) (by kernel_rfl) rfl (fun _ => by kernel_rfl) ?_
    refine Xg.any_nil (by kernel_rfl) ?_
    refine Xg.at_false (t := false) (by kernel_rfl) rfl ?_
    refine Xg.at_skip ?_
    refine Xg.at_inBlock ?_
    refine Xg.at_seq ?_
    refine Xg.at_seq ?_
    refine Xg.at_region ?_
    refine Xg.ops_op (by kernel_rfl) (Xg.opx_pure ((Value.bool was)) rfl (fun _ => by kernel_rfl) ?_)
    refine Xg.ops_op (by kernel_rfl) (Xg.opx_pure (.bool (!was)) rfl (fun _ => by kernel_rfl) ?_)
    refine Xg.ops_op (by kernel_rfl) (Xg.opx_pure ((Value.bool !was)) rfl (fun _ => by kernel_rfl) ?_)
    refine Xg.ops_flag (j := 89) (c := !was) (by kernel_rfl) (fun xh2 => ?_) (fun xh2 => ?_)
    replace xh2 : was = false := by simpa using xh2
    rotate_left
    replace xh2 : was = true := by simpa using xh2
    rotate_right
    refine Xg.ops_op (by kernel_rfl) (Xg.opx_pure ((pv p 0)) rfl (fun _ => by kernel_rfl) ?_)
    refine Xg.ops_op (by kernel_rfl) (Xg.opx_call1' [0] [PpR p (Pp.mk σ.regs σ.vram σ.oam (σ.clock + (4 : Int)) σ.seen σ.rows σ.now σ.last)] (fun _ => by kernel_rfl) (@hl2 ) (by kernel_rfl) (by kernel_rfl) (by kernel_rfl) ?_)
    refine Xg.ops_flag (j := 91) (c := is) (by kernel_rfl) (fun xh3 => ?_) (fun xh3 => ?_)
    refine Xg.ops_op (by kernel_rfl) (Xg.opx_pure ((Value.bool true)) rfl (fun _ => by kernel_rfl) ?_)
    refine Xg.ops_nil ?_
    refine Xg.at_true (t := true) (by kernel_rfl) rfl ?_
    refine Xg.at_region ?_
    refine Xg.ops_op (by kernel_rfl) (Xg.opx_pure ((iv 0)) rfl (fun _ => by kernel_rfl) ?_)
    refine Xg.ops_op (by kernel_rfl) (Xg.opx_pure ((iv 2)) rfl (fun _ => by kernel_rfl) ?_)
    refine Xg.ops_op (by kernel_rfl) (Xg.opx_pure ((iv 2)) rfl (fun _ => by kernel_rfl) ?_)
    refine Xg.ops_nil ?_
    refine Xg.at_seq ?_
    refine Xg.at_region ?_
    refine Xg.ops_op (by kernel_rfl) (Xg.opx_pure ((iv 2)) rfl (fun _ => by kernel_rfl) ?_)
    refine Xg.ops_op (by kernel_rfl) (Xg.opx_pure ((iv 2)) rfl (fun _ => by kernel_rfl) ?_)
    refine Xg.ops_nil ?_
    refine Xg.at_ret_ps (v := (iv 2)) [0] [PpR p (Pp.mk σ.regs σ.vram σ.oam (σ.clock + (4 : Int)) σ.seen σ.rows σ.now σ.last)] Go.Proofs.Try.func38 (fun _ => by kernel_rfl) (by kernel_rfl) (by kernel_rfl) ?_
    rotate_left
    refine Xg.ops_op (by kernel_rfl) (Xg.opx_pure ((Value.bool false)) rfl (fun _ => by kernel_rfl) ?_)
    refine Xg.ops_nil ?_
    refine Xg.at_false (t := false) (by kernel_rfl) rfl ?_
    refine Xg.at_skip ?_
    refine Xg.at_seq ?_
    refine Xg.at_region ?_
    refine Xg.ops_op (by kernel_rfl) (Xg.opx_pure ((iv 0)) rfl (fun _ => by kernel_rfl) ?_)
    refine Xg.ops_op (by kernel_rfl) (Xg.opx_pure ((iv 0)) rfl (fun _ => by kernel_rfl) ?_)
    refine Xg.ops_nil ?_
    refine Xg.at_ret_ps (v := (iv 0)) [0] [PpR p (Pp.mk σ.regs σ.vram σ.oam (σ.clock + (4 : Int)) σ.seen σ.rows σ.now σ.last)] Go.Proofs.Try.func38 (fun _ => by kernel_rfl) (by kernel_rfl) (by kernel_rfl) ?_
    rotate_left
    refine Xg.ops_skip (by kernel_rfl) ?_
    refine Xg.ops_skip (by kernel_rfl) ?_
    refine Xg.ops_op (by kernel_rfl) (Xg.opx_pure ((Value.bool false)) rfl (fun _ => by kernel_rfl) ?_)
    refine Xg.ops_nil ?_
    refine Xg.at_false (t := false) (by kernel_rfl) rfl ?_
    refine Xg.at_skip ?_
    refine Xg.at_seq ?_
    refine Xg.at_region ?_
    refine Xg.ops_op (by kernel_rfl) (Xg.opx_pure ((iv 0)) rfl (fun _ => by kernel_rfl) ?_)
    refine Xg.ops_op (by kernel_rfl) (Xg.opx_pure ((iv 0)) rfl (fun _ => by kernel_rfl) ?_)
    refine Xg.ops_nil ?_
    refine Xg.at_ret_ps (v := (iv 0)) [0] [row p (77 : TypeId) (ppc (Pp.mk σ.regs σ.vram σ.oam (σ.clock + (4 : Int)) σ.seen σ.rows σ.now σ.last))] Go.Proofs.Try.func38 (fun _ => by kernel_rfl) (by kernel_rfl) (by kernel_rfl) ?_)
  all_goals exact ⟨by first | rfl | (simp [askI, *]; done) | (simp [askI, *]; decide), rfl⟩

set_option maxHeartbeats 0 in
theorem tick_252a (p : Nat) (σ : Pp) (hσ : σ.Ok) (hon : hasB (σ.regs 0) 7 = true) (hc : σ.clock = 248) (hs : σ.regs 4 < 144) : Does Try.prog 38 [pt p] [PpR p σ] (Ret (.int .i64 (tickA σ)) [PpR p (tickP σ)]) := by
  have h0 := hσ.wf.regs 0
  have h4 := hσ.wf.regs 4
  have h10 := hσ.wf.regs 10
  have hly := hσ.wf.ly
  have hcl := hσ.wf.clock
  have hrw := hσ.rowsLy
  have hok := ok_next hσ
  have ho : Does Try.prog 57 [pt p] [PpR p σ] (Ret (.bool true) [PpR p σ]) := by
    have := on_d p σ h0
    rwa [hon] at this
  obtain ⟨was, hwas⟩ : ∃ b, lineB σ = b := ⟨_, rfl⟩
  have hl : Does Try.prog 58 [pt p] [PpR p σ] (Ret (.bool was) [PpR p σ]) := by
    have := lineQ_d p σ hσ.wf
    rwa [hwas] at this
  obtain ⟨G, hG⟩ : ∃ G, nextP σ = G := ⟨_, rfl⟩
  rw [hG] at hok
  obtain ⟨is, his⟩ : ∃ b, lineB G = b := ⟨_, rfl⟩
  have hA : tickA σ = askI was is 0 := by
    have e : (if σ.clock = 452 ∧ σ.regs 4 = 143 then (1 : Int) else 0) = 0 := by first | exact if_pos (by omega) | exact if_neg (by omega)
    unfold tickA askI
    rw [if_pos hon, e, hwas, hG, his]
    split <;> omega
  rw [show tickP σ = nextP σ from by unfold tickP; simp [hon], hA, hG]
  have hl2 : Does Try.prog 58 [pt p] [PpR p G] (Ret (.bool is) [PpR p G]) := by
    have := lineQ_d p G hok.wf
    rwa [his] at this
  have e : G = drawP { σ with clock := σ.clock + 4 } := by
    rw [← hG]
    unfold nextP
    (repeat' split) <;> first | rfl | (exfalso; omega)
  have hdr : Does Try.prog 59 [pt p] [PpR p { σ with clock := σ.clock + 4 }] (Ret (.tuple #[]) [PpR p G]) := by
    have := draw_d p { σ with clock := σ.clock + 4 } (wf_clock hσ.wf (by omega)) hs (by have := hrw hs; show σ.rows ≤ 143; omega)
    rwa [← e] at this
  clear e
  clear hG hA hok
  (focus
    refine Xg.spec_of Go.Proofs.Try.func38 rfl Go.Proofs.Try.ntmps38 fun g F => ?_)
  (focus
    refine Xg.at_seq ?_
    refine Xg.at_region ?_
    refine Xg.ops_op (by kernel_rfl) (Xg.opx_pure ((iv 0)) rfl (fun _ => by kernel_rfl) ?_)
    refine Xg.ops_nil ?_
    refine Xg.at_seq ?_
    refine Xg.at_seq ?_
    refine Xg.at_region ?_
    refine Xg.ops_op (by kernel_rfl) (Xg.opx_pure ((pv p 0)) rfl (fun _ => by kernel_rfl) ?_)
    refine Xg.ops_op (by kernel_rfl) (Xg.opx_call1' [0] [PpR p σ] (fun _ => by kernel_rfl) (@ho ) (by kernel_rfl) (by kernel_rfl) (by kernel_rfl) ?_)
    refine Xg.ops_op (by kernel_rfl) (Xg.opx_pure (.bool false) rfl (fun _ => by kernel_rfl) ?_)
    refine Xg.ops_nil ?_
    refine Xg.at_false (t := false) (by kernel_rfl) rfl ?_
    refine Xg.at_skip ?_
    refine Xg.at_seq ?_
    refine Xg.at_region ?_
    refine Xg.ops_op (by kernel_rfl) (Xg.opx_pure ((pv p 0)) rfl (fun _ => by kernel_rfl) ?_)
    refine Xg.ops_op (by kernel_rfl) (Xg.opx_call1' [0] [PpR p σ] (fun _ => by kernel_rfl) (@hl ) (by kernel_rfl) (by kernel_rfl) (by kernel_rfl) ?_)
    refine Xg.ops_op (by kernel_rfl) (Xg.opx_pure ((Value.bool was)) rfl (fun _ => by kernel_rfl) ?_)
    refine Xg.ops_nil ?_
    refine Xg.at_seq ?_
    refine Xg.at_region ?_
    refine Xg.ops_op (by kernel_rfl) (Xg.opx_pure ((iv 0)) rfl (fun _ => by kernel_rfl) ?_)
    refine Xg.ops_nil ?_
    refine Xg.at_seq ?_
    refine Xg.at_region ?_
    refine Xg.ops_op (by kernel_rfl) (Xg.opx_pure ((pv p 0)) rfl (fun _ => by kernel_rfl) ?_)
    refine Xg.ops_op (by kernel_rfl) (Xg.opx_pure ((pv p 0)) rfl (fun _ => by kernel_rfl) ?_)
    refine Xg.ops_op (by kernel_rfl) (Xg.opx_pure ((pv p 8364)) rfl (fun _ => by kernel_rfl) ?_)
    refine Xg.ops_op (by kernel_rfl) (Xg.opx_load (b := p) (off := ((8364 : Nat))) 0 (iv σ.clock) rfl (by kernel_rfl) (@Go.Proofs.Ytkfclamiendamaa.g_clock (σ)) (by kernel_rfl) ?_)
    refine Xg.ops_op (by kernel_rfl) (Xg.opx_int .i64 (IntKind.wrap .i64 ((σ.clock + (4 : Int)))) rfl (fun _ => by kernel_rfl) (Xg.wrap_i64_in (by omega)) ?_)
    refine Xg.ops_op (by kernel_rfl) (Xg.opx_pure ((pv p 0)) rfl (fun _ => by kernel_rfl) ?_)
    refine Xg.ops_op (by kernel_rfl) (Xg.opx_pure ((pv p 8364)) rfl (fun _ => by kernel_rfl) ?_)
    refine Xg.ops_op (by kernel_rfl) (Xg.opx_store_c (off := ((8364 : Nat))) (cs' := (ppc (Pp.mk σ.regs σ.vram σ.oam (σ.clock + (4 : Int)) σ.seen σ.rows σ.now σ.last))) 0 (iv (σ.clock + (4 : Int))) (by kernel_rfl) rfl (by kernel_rfl) (by kernel_rfl) (by kernel_rfl) (@Go.Proofs.Ytkfclamiendamaa.s_clock (σ) ((σ.clock + (4 : Int)))) ?_)
    refine Xg.ops_nil ?_
    refine Xg.at_seq ?_
    refine Xg.at_seq ?_
    refine Xg.at_region ?_
    refine Xg.ops_op (by kernel_rfl) (Xg.opx_pure ((pv p 0)) rfl (fun _ => by kernel_rfl) ?_)
    refine Xg.ops_op (by kernel_rfl) (Xg.opx_pure ((pv p 0)) rfl (fun _ => by kernel_rfl) ?_)
    refine Xg.ops_op (by kernel_rfl) (Xg.opx_pure ((pv p 8364)) rfl (fun _ => by kernel_rfl) ?_)
    refine Xg.ops_op (by kernel_rfl) (Xg.opx_load (b := p) (off := ((8364 : Nat))) 0 (iv (σ.clock + (4 : Int))) rfl (by kernel_rfl) (@Go.Proofs.Ytkfclamiendamaa.g_clock ((Pp.mk σ.regs σ.vram σ.oam (σ.clock + (4 : Int)) σ.seen σ.rows σ.now σ.last))) (by kernel_rfl) ?_)
    refine Xg.ops_nil ?_
    refine Xg.at_block ?_
    refine Xg.at_seq ?_
    refine Xg.at_region ?_
    refine Xg.ops_op (by kernel_rfl) (Xg.opx_pure (.bool (decide (((σ.clock + (4 : Int)) : Int) = ((80 : Int))))) rfl (fun _ => by kernel_rfl) ?_)
    refine Xg.ops_op (by kernel_rfl) (Xg.opx_pure ((Value.bool (decide (σ.clock + (4 : Int) = (80 : Int))))) rfl (fun _ => by kernel_rfl) ?_)
    refine Xg.ops_nil ?_
    refine Xg.at_false (t := decide ((σ.clock + (4 : Int) = (80 : Int)))) (by kernel_rfl) (decide_eq_false (by omega)) ?_
    refine Xg.at_seq ?_
    refine Xg.at_region ?_
    refine Xg.ops_op (by kernel_rfl) (Xg.opx_pure (.bool (decide (((σ.clock + (4 : Int)) : Int) = ((252 : Int))))) rfl (fun _ => by kernel_rfl) ?_)
    refine Xg.ops_op (by kernel_rfl) (Xg.opx_pure ((Value.bool (decide (σ.clock + (4 : Int) = (252 : Int))))) rfl (fun _ => by kernel_rfl) ?_)
    refine Xg.ops_nil ?_
    refine Xg.at_true (t := decide ((σ.clock + (4 : Int) = (252 : Int)))) (by kernel_rfl) (decide_eq_true (by omega)) ?_
    refine Xg.at_seq ?_
    refine Xg.at_region ?_
    refine Xg.ops_op (by kernel_rfl) (Xg.opx_pure ((pv p 0)) rfl (fun _ => by kernel_rfl) ?_)
    refine Xg.ops_op (by kernel_rfl) (Xg.opx_pure ((pv p 0)) rfl (fun _ => by kernel_rfl) ?_)
    refine Xg.ops_op (by kernel_rfl) (Xg.opx_pure ((pv p 0)) rfl (fun _ => by kernel_rfl) ?_)
    refine Xg.ops_op (by kernel_rfl) (Xg.opx_pure (pv p 4) rfl (fun _ => by kernel_rfl) ?_)
    refine Xg.ops_op (by kernel_rfl) (Xg.opx_load (b := p) (off := ((4 : Nat))) 0 (iv (σ.regs 4)) rfl (by kernel_rfl) (@Go.Proofs.Ytkfclamiendamaa.g_regs ((Pp.mk σ.regs σ.vram σ.oam (σ.clock + (4 : Int)) σ.seen σ.rows σ.now σ.last)) (((4 : Nat))) (by omega)) (by kernel_rfl) ?_)
    refine Xg.ops_op (by kernel_rfl) (Xg.opx_pure (.bool (decide (((σ.regs 4) : Int) < ((144 : Int))))) rfl (fun _ => by kernel_rfl) ?_)
    refine Xg.ops_nil ?_
    refine Xg.at_true (t := decide ((σ.regs 4 < (144 : Int)))) (by kernel_rfl) (decide_eq_true (by omega)) ?_
    refine Xg.at_region ?_
    refine Xg.ops_op (by kernel_rfl) (Xg.opx_pure ((pv p 0)) rfl (fun _ => by kernel_rfl) ?_)
    refine Xg.ops_op (by kernel_rfl) (Xg.opx_call1' [0] [PpR p G] (fun _ => by kernel_rfl) (@hdr ) (by kernel_rfl) (by kernel_rfl) (by kernel_rfl) ?_)
    refine Xg.ops_nil ?_
    refine Xg.at_inBlock ?_
    refine Xg.at_seq ?_
    refine Xg.at_seq ?_
    refine Xg.at_region ?_
    refine Xg.ops_op (by kernel_rfl) (Xg.opx_pure ((Value.bool was)) rfl (fun _ => by kernel_rfl) ?_)
    refine Xg.ops_op (by kernel_rfl) (Xg.opx_pure (.bool (!was)) rfl (fun _ => by kernel_rfl) ?_)
    refine Xg.ops_op (by kernel_rfl) (Xg.opx_pure ((Value.bool !was)) rfl (fun _ => by kernel_rfl) ?_)
    refine Xg.ops_flag (j := 89) (c := !was) (by kernel_rfl) (fun xh1 => ?_) (fun xh1 => ?_)
    replace xh1 : was = false := by simpa using xh1
    rotate_left
    replace xh1 : was = true := by simpa using xh1
    rotate_right
    refine Xg.ops_op (by kernel_rfl) (Xg.opx_pure ((pv p 0)) rfl (fun _ => by kernel_rfl) ?_)
    refine Xg.ops_op (by kernel_rfl) (Xg.opx_call1' [0] [PpR p G] (fun _ => by kernel_rfl) (@hl2 ) (by kernel_rfl) (by kernel_rfl) (by kernel_rfl) ?_)
    refine Xg.ops_flag (j := 91) (c := is) (by kernel_rfl) (fun xh2 => ?_) (fun xh2 => ?_)
    refine Xg.ops_op (by kernel_rfl) (Xg.opx_pure ((Value.bool true)) rfl (fun _ => by kernel_rfl) ?_)
    refine Xg.ops_nil ?_
    refine Xg.at_true (t := true) (by kernel_rfl) rfl ?_
    refine Xg.at_region ?_
    refine Xg.ops_op (by kernel_rfl) (Xg.opx_pure ((iv 0)) rfl (fun _ => by kernel_rfl) ?_)
    refine Xg.ops_op (by kernel_rfl) (Xg.opx_pure ((iv 2)) rfl (fun _ => by kernel_rfl) ?_)
    refine Xg.ops_op (by kernel_rfl) (Xg.opx_pure ((iv 2)) rfl (fun _ => by kernel_rfl) ?_)
    refine Xg.ops_nil ?_
    refine Xg.at_seq ?_
    refine Xg.at_region ?_
    refine Xg.ops_op (by kernel_rfl) (Xg.opx_pure ((iv 2)) rfl (fun _ => by kernel_rfl) ?_)
    refine Xg.ops_op (by kernel_rfl) (Xg.opx_pure ((iv 2)) rfl (fun _ => by kernel_rfl) ?_)
    refine Xg.ops_nil ?_
    refine Xg.at_ret_ps (v := (iv 2)) [0] [PpR p G] Go.Proofs.Try.func38 (fun _ => by kernel_rfl) (by kernel_rfl) (by kernel_rfl) ?_
    rotate_left
    refine Xg.ops_op (by kernel_rfl) (Xg.opx_pure ((Value.bool false)) rfl (fun _ => by kernel_rfl) ?_)
    refine Xg.ops_nil ?_
    refine Xg.at_false (t := false) (by kernel_rfl) rfl ?_
    refine Xg.at_skip ?_
    refine Xg.at_seq ?_
    refine Xg.at_region ?_
    refine Xg.ops_op (by kernel_rfl) (Xg.opx_pure ((iv 0)) rfl (fun _ => by kernel_rfl) ?_)
    refine Xg.ops_op (by kernel_rfl) (Xg.opx_pure ((iv 0)) rfl (fun _ => by kernel_rfl) ?_)
    refine Xg.ops_nil ?_
    refine Xg.at_ret_ps (v := (iv 0)) [0] [PpR p G] Go.Proofs.Try.func38 (fun _ => by kernel_rfl) (by kernel_rfl) (by kernel_rfl) ?_
    rotate_left
    refine Xg.ops_skip (by kernel_rfl) ?_
    refine Xg.ops_skip (by kernel_rfl) ?_
    refine Xg.ops_op (by kernel_rfl) (Xg.opx_pure ((Value.bool false)) rfl (fun _ => by kernel_rfl) ?_)
    refine Xg.ops_nil ?_
    refine Xg.at_false (t := false) (by kernel_rfl) rfl ?_
    refine Xg.at_skip ?_
    refine Xg.at_seq ?_
    refine Xg.at_region ?_
    refine Xg.ops_op (by kernel_rfl) (Xg.opx_pure ((iv 0)) rfl (fun _ => by kernel_rfl) ?_)
    refine Xg.ops_op (by kernel_rfl) (Xg.opx_pure ((iv 0)) rfl (fun _ => by kernel_rfl) ?_)
    refine Xg.ops_nil ?_
    refine Xg.at_ret_ps (v := (iv 0)) [0] [PpR p G] Go.Proofs.Try.func38 (fun _ => by kernel_rfl) (by kernel_rfl) (by kernel_rfl) ?_)
  all_goals exact ⟨by first | rfl | (simp [askI, *]; done) | (simp [askI, *]; decide), rfl⟩

set_option maxHeartbeats 0 in
theorem tick_252b (p : Nat) (σ : Pp) (hσ : σ.Ok) (hon : hasB (σ.regs 0) 7 = true) (hc : σ.clock = 248) (hs : ¬ σ.regs 4 < 144) : Does Try.prog 38 [pt p] [PpR p σ] (Ret (.int .i64 (tickA σ)) [PpR p (tickP σ)]) := by
  have h0 := hσ.wf.regs 0
  have h4 := hσ.wf.regs 4
  have h10 := hσ.wf.regs 10
  have hly := hσ.wf.ly
  have hcl := hσ.wf.clock
  have hrw := hσ.rowsLy
  have hok := ok_next hσ
  have ho : Does Try.prog 57 [pt p] [PpR p σ] (Ret (.bool true) [PpR p σ]) := by
    have := on_d p σ h0
    rwa [hon] at this
  obtain ⟨was, hwas⟩ : ∃ b, lineB σ = b := ⟨_, rfl⟩
  have hl : Does Try.prog 58 [pt p] [PpR p σ] (Ret (.bool was) [PpR p σ]) := by
    have := lineQ_d p σ hσ.wf
    rwa [hwas] at this
  obtain ⟨G, hG⟩ : ∃ G, nextP σ = G := ⟨_, rfl⟩
  rw [hG] at hok
  obtain ⟨is, his⟩ : ∃ b, lineB G = b := ⟨_, rfl⟩
  have hA : tickA σ = askI was is 0 := by
    have e : (if σ.clock = 452 ∧ σ.regs 4 = 143 then (1 : Int) else 0) = 0 := by first | exact if_pos (by omega) | exact if_neg (by omega)
    unfold tickA askI
    rw [if_pos hon, e, hwas, hG, his]
    split <;> omega
  rw [show tickP σ = nextP σ from by unfold tickP; simp [hon], hA, hG]
  have hl2 : Does Try.prog 58 [pt p] [PpR p G] (Ret (.bool is) [PpR p G]) := by
    have := lineQ_d p G hok.wf
    rwa [his] at this
  have e : G = { σ with clock := σ.clock + 4 } := by
    rw [← hG]
    unfold nextP
    (repeat' split) <;> first | rfl | (exfalso; omega)
  clear hG hA hok
  subst e
  (focus
    refine Xg.spec_of Go.Proofs.Try.func38 rfl Go.Proofs.Try.ntmps38 fun g F => ?_)
  (focus
    refine Xg.at_seq ?_
    refine Xg.at_region ?_
    refine Xg.ops_op (by kernel_rfl) (Xg.opx_pure ((iv 0)) rfl (fun _ => by kernel_rfl) ?_)
    refine Xg.ops_nil ?_
    refine Xg.at_seq ?_
    refine Xg.at_seq ?_
    refine Xg.at_region ?_
    refine Xg.ops_op (by kernel_rfl) (Xg.opx_pure ((pv p 0)) rfl (fun _ => by kernel_rfl) ?_)
    refine Xg.ops_op (by kernel_rfl) (Xg.opx_call1' [0] [PpR p σ] (fun _ => by kernel_rfl) (@ho ) (by kernel_rfl) (by kernel_rfl) (by kernel_rfl) ?_)
    refine Xg.ops_op (by kernel_rfl) (Xg.opx_pure (.bool false) rfl (fun _ => by kernel_rfl) ?_)
    refine Xg.ops_nil ?_
    refine Xg.at_false (t := false) (by kernel_rfl) rfl ?_
    refine Xg.at_skip ?_
    refine Xg.at_seq ?_
    refine Xg.at_region ?_
    refine Xg.ops_op (by kernel_rfl) (Xg.opx_pure ((pv p 0)) rfl (fun _ => by kernel_rfl) ?_)
    refine Xg.ops_op (by kernel_rfl) (Xg.opx_call1' [0] [PpR p σ] (fun _ => by kernel_rfl) (@hl ) (by kernel_rfl) (by kernel_rfl) (by kernel_rfl) ?_)
    refine Xg.ops_op (by kernel_rfl) (Xg.opx_pure ((Value.bool was)) rfl (fun _ => by kernel_rfl) ?_)
    refine Xg.ops_nil ?_
    refine Xg.at_seq ?_
    refine Xg.at_region ?_
    refine Xg.ops_op (by kernel_rfl) (Xg.opx_pure ((iv 0)) rfl (fun _ => by kernel_rfl) ?_)
    refine Xg.ops_nil ?_
    refine Xg.at_seq ?_
    refine Xg.at_region ?_
    refine Xg.ops_op (by kernel_rfl) (Xg.opx_pure ((pv p 0)) rfl (fun _ => by kernel_rfl) ?_)
    refine Xg.ops_op (by kernel_rfl) (Xg.opx_pure ((pv p 0)) rfl (fun _ => by kernel_rfl) ?_)
    refine Xg.ops_op (by kernel_rfl) (Xg.opx_pure ((pv p 8364)) rfl (fun _ => by kernel_rfl) ?_)
    refine Xg.ops_op (by kernel_rfl) (Xg.opx_load (b := p) (off := ((8364 : Nat))) 0 (iv σ.clock) rfl (by kernel_rfl) (@Go.Proofs.Ytkfclamiendamaa.g_clock (σ)) (by kernel_rfl) ?_)
    refine Xg.ops_op (by kernel_rfl) (Xg.opx_int .i64 (IntKind.wrap .i64 ((σ.clock + (4 : Int)))) rfl (fun _ => by kernel_rfl) (Xg.wrap_i64_in (by omega)) ?_)
    refine Xg.ops_op (by kernel_rfl) (Xg.opx_pure ((pv p 0)) rfl (fun _ => by kernel_rfl) ?_)
    refine Xg.ops_op (by kernel_rfl) (Xg.opx_pure ((pv p 8364)) rfl (fun _ => by kernel_rfl) ?_)
    refine Xg.ops_op (by kernel_rfl) (Xg.opx_store_c (off := ((8364 : Nat))) (cs' := (ppc (Pp.mk σ.regs σ.vram σ.oam (σ.clock + (4 : Int)) σ.seen σ.rows σ.now σ.last))) 0 (iv (σ.clock + (4 : Int))) (by kernel_rfl) rfl (by kernel_rfl) (by kernel_rfl) (by kernel_rfl) (@Go.Proofs.Ytkfclamiendamaa.s_clock (σ) ((σ.clock + (4 : Int)))) ?_)
    refine Xg.ops_nil ?_
    refine Xg.at_seq ?_
    refine Xg.at_seq ?_
    refine Xg.at_region ?_
    refine Xg.ops_op (by kernel_rfl) (Xg.opx_pure ((pv p 0)) rfl (fun _ => by kernel_rfl) ?_)
    refine Xg.ops_op (by kernel_rfl) (Xg.opx_pure ((pv p 0)) rfl (fun _ => by kernel_rfl) ?_)
    refine Xg.ops_op (by kernel_rfl) (Xg.opx_pure ((pv p 8364)) rfl (fun _ => by kernel_rfl) ?_)
    refine Xg.ops_op (by kernel_rfl) (Xg.opx_load (b := p) (off := ((8364 : Nat))) 0 (iv (σ.clock + (4 : Int))) rfl (by kernel_rfl) (@Go.Proofs.Ytkfclamiendamaa.g_clock ((Pp.mk σ.regs σ.vram σ.oam (σ.clock + (4 : Int)) σ.seen σ.rows σ.now σ.last))) (by kernel_rfl) ?_)
    refine Xg.ops_nil ?_
    refine Xg.at_block ?_
    refine Xg.at_seq ?_
    refine Xg.at_region ?_
    refine Xg.ops_op (by kernel_rfl) (Xg.opx_pure (.bool (decide (((σ.clock + (4 : Int)) : Int) = ((80 : Int))))) rfl (fun _ => by kernel_rfl) ?_)
    refine Xg.ops_op (by kernel_rfl) (Xg.opx_pure ((Value.bool (decide (σ.clock + (4 : Int) = (80 : Int))))) rfl (fun _ => by kernel_rfl) ?_)
    refine Xg.ops_nil ?_
    refine Xg.at_false (t := decide ((σ.clock + (4 : Int) = (80 : Int)))) (by kernel_rfl) (decide_eq_false (by omega)) ?_
    refine Xg.at_seq ?_
    refine Xg.at_region ?_
    refine Xg.ops_op (by kernel_rfl) (Xg.opx_pure (.bool (decide (((σ.clock + (4 : Int)) : Int) = ((252 : Int))))) rfl (fun _ => by kernel_rfl) ?_)
    refine Xg.ops_op (by kernel_rfl) (Xg.opx_pure ((Value.bool (decide (σ.clock + (4 : Int) = (252 : Int))))) rfl (fun _ => by kernel_rfl) ?_)
    refine Xg.ops_nil ?_
    refine Xg.at_true (t := decide ((σ.clock + (4 : Int) = (252 : Int)))) (by kernel_rfl) (decide_eq_true (by omega)) ?_
    refine Xg.at_seq ?_
    refine Xg.at_region ?_
    refine Xg.ops_op (by kernel_rfl) (Xg.opx_pure ((pv p 0)) rfl (fun _ => by kernel_rfl) ?_)
    refine Xg.ops_op (by kernel_rfl) (Xg.opx_pure ((pv p 0)) rfl (fun _ => by kernel_rfl) ?_)
    refine Xg.ops_op (by kernel_rfl) (Xg.opx_pure ((pv p 0)) rfl (fun _ => by kernel_rfl) ?_)
    refine Xg.ops_op (by kernel_rfl) (Xg.opx_pure (pv p 4) rfl (fun _ => by kernel_rfl) ?_)
    refine Xg.ops_op (by kernel_rfl) (Xg.opx_load (b := p) (off := ((4 : Nat))) 0 (iv (σ.regs 4)) rfl (by kernel_rfl) (@Go.Proofs.Ytkfclamiendamaa.g_regs ((Pp.mk σ.regs σ.vram σ.oam (σ.clock + (4 : Int)) σ.seen σ.rows σ.now σ.last)) (((4 : Nat))) (by omega)) (by kernel_rfl) ?_)
    refine Xg.ops_op (by kernel_rfl) (Xg.opx_pure (.bool (decide (((σ.regs 4) : Int) < ((144 : Int))))) rfl (fun _ => by kernel_rfl) ?_)
    refine Xg.ops_nil ?_
    refine Xg.at_false (t := decide ((σ.regs 4 < (144 : Int)))) (by kernel_rfl) (decide_eq_false (by omega)) ?_
    refine Xg.at_skip ?_
    refine Xg.at_inBlock ?_
    refine Xg.at_seq ?_
    refine Xg.at_seq ?_
    refine Xg.at_region ?_
    refine Xg.ops_op (by kernel_rfl) (Xg.opx_pure ((Value.bool was)) rfl (fun _ => by kernel_rfl) ?_)
    refine Xg.ops_op (by kernel_rfl) (Xg.opx_pure (.bool (!was)) rfl (fun _ => by kernel_rfl) ?_)
    refine Xg.ops_op (by kernel_rfl) (Xg.opx_pure ((Value.bool !was)) rfl (fun _ => by kernel_rfl) ?_)
    refine Xg.ops_flag (j := 89) (c := !was) (by kernel_rfl) (fun xh1 => ?_) (fun xh1 => ?_)
    replace xh1 : was = false := by simpa using xh1
    rotate_left
    replace xh1 : was = true := by simpa using xh1
    rotate_right
    refine Xg.ops_op (by kernel_rfl) (Xg.opx_pure ((pv p 0)) rfl (fun _ => by kernel_rfl) ?_)
    refine Xg.ops_op (by kernel_rfl) (Xg.opx_call1' [0] [PpR p (Pp.mk σ.regs σ.vram σ.oam (σ.clock + (4 : Int)) σ.seen σ.rows σ.now σ.last)] (fun _ => by kernel_rfl) (@hl2 ) (by kernel_rfl) (by kernel_rfl) (by kernel_rfl) ?_)
    refine Xg.ops_flag (j := 91) (c := is) (by kernel_rfl) (fun xh2 => ?_) (fun xh2 => ?_)
    refine Xg.ops_op (by kernel_rfl) (Xg.opx_pure ((Value.bool true)) rfl (fun _ => by kernel_rfl) ?_)
    refine Xg.ops_nil ?_
    refine Xg.at_true (t := true) (by kernel_rfl) rfl ?_
    refine Xg.at_region ?_
    refine Xg.ops_op (by kernel_rfl) (Xg.opx_pure ((iv 0)) rfl (fun _ => by kernel_rfl) ?_)
    refine Xg.ops_op (by kernel_rfl) (Xg.opx_pure ((iv 2)) rfl (fun _ => by kernel_rfl) ?_)
    refine Xg.ops_op (by kernel_rfl) (Xg.opx_pure ((iv 2)) rfl (fun _ => by kernel_rfl) ?_)
    refine Xg.ops_nil ?_
    refine Xg.at_seq ?_
    refine Xg.at_region ?_
    refine Xg.ops_op (by kernel_rfl) (Xg.opx_pure ((iv 2)) rfl (fun _ => by kernel_rfl) ?_)
    refine Xg.ops_op (by kernel_rfl) (Xg.opx_pure ((iv 2)) rfl (fun _ => by kernel_rfl) ?_)
    refine Xg.ops_nil ?_
    refine Xg.at_ret_ps (v := (iv 2)) [0] [PpR p (Pp.mk σ.regs σ.vram σ.oam (σ.clock + (4 : Int)) σ.seen σ.rows σ.now σ.last)] Go.Proofs.Try.func38 (fun _ => by kernel_rfl) (by kernel_rfl) (by kernel_rfl) ?_
    rotate_left
    refine Xg.ops_op (by kernel_rfl) (Xg.opx_pure ((Value.bool false)) rfl (fun _ => by kernel_rfl) ?_)
    refine Xg.ops_nil ?_
    refine Xg.at_false (t := false) (by kernel_rfl) rfl ?_
    refine Xg.at_skip ?_
    refine Xg.at_seq ?_
    refine Xg.at_region ?_
    refine Xg.ops_op (by kernel_rfl) (Xg.opx_pure ((iv 0)) rfl (fun _ => by kernel_rfl) ?_)
    refine Xg.ops_op (by kernel_rfl) (Xg.opx_pure ((iv 0)) rfl (fun _ => by kernel_rfl) ?_)
    refine Xg.ops_nil ?_
    refine Xg.at_ret_ps (v := (iv 0)) [0] [PpR p (Pp.mk σ.regs σ.vram σ.oam (σ.clock + (4 : Int)) σ.seen σ.rows σ.now σ.last)] Go.Proofs.Try.func38 (fun _ => by kernel_rfl) (by kernel_rfl) (by kernel_rfl) ?_
    rotate_left
    refine Xg.ops_skip (by kernel_rfl) ?_
    refine Xg.ops_skip (by kernel_rfl) ?_
    refine Xg.ops_op (by kernel_rfl) (Xg.opx_pure ((Value.bool false)) rfl (fun _ => by kernel_rfl) ?_)
    refine Xg.ops_nil ?_
    refine Xg.at_false (t := false) (by kernel_rfl) rfl ?_
    refine Xg.at_skip ?_
    refine Xg.at_seq ?_
    refine Xg.at_region ?_
    refine Xg.ops_op (by kernel_rfl) (Xg.opx_pure ((iv 0)) rfl (fun _ => by kernel_rfl) ?_)
    refine Xg.ops_op (by kernel_rfl) (Xg.opx_pure ((iv 0)) rfl (fun _ => by kernel_rfl) ?_)
    refine Xg.ops_nil ?_
    refine Xg.at_ret_ps (v := (iv 0)) [0] [row p (77 : TypeId) (ppc (Pp.mk σ.regs σ.vram σ.oam (σ.clock + (4 : Int)) σ.seen σ.rows σ.now σ.last))] Go.Proofs.Try.func38 (fun _ => by kernel_rfl) (by kernel_rfl) (by kernel_rfl) ?_)
  all_goals exact ⟨by first | rfl | (simp [askI, *]; done) | (simp [askI, *]; decide), rfl⟩

set_option maxHeartbeats 0 in
theorem tick_456b (p : Nat) (σ : Pp) (hσ : σ.Ok) (hon : hasB (σ.regs 0) 7 = true) (hc : σ.clock = 452) (hs : σ.regs 4 = 153) : Does Try.prog 38 [pt p] [PpR p σ] (Ret (.int .i64 (tickA σ)) [PpR p (tickP σ)]) := by
  have h0 := hσ.wf.regs 0
  have h4 := hσ.wf.regs 4
  have h10 := hσ.wf.regs 10
  have hly := hσ.wf.ly
  have hcl := hσ.wf.clock
  have hrw := hσ.rowsLy
  have hok := ok_next hσ
  have ho : Does Try.prog 57 [pt p] [PpR p σ] (Ret (.bool true) [PpR p σ]) := by
    have := on_d p σ h0
    rwa [hon] at this
  obtain ⟨was, hwas⟩ : ∃ b, lineB σ = b := ⟨_, rfl⟩
  have hl : Does Try.prog 58 [pt p] [PpR p σ] (Ret (.bool was) [PpR p σ]) := by
    have := lineQ_d p σ hσ.wf
    rwa [hwas] at this
  obtain ⟨G, hG⟩ : ∃ G, nextP σ = G := ⟨_, rfl⟩
  rw [hG] at hok
  obtain ⟨is, his⟩ : ∃ b, lineB G = b := ⟨_, rfl⟩
  have hA : tickA σ = askI was is 0 := by
    have e : (if σ.clock = 452 ∧ σ.regs 4 = 143 then (1 : Int) else 0) = 0 := by first | exact if_pos (by omega) | exact if_neg (by omega)
    unfold tickA askI
    rw [if_pos hon, e, hwas, hG, his]
    split <;> omega
  rw [show tickP σ = nextP σ from by unfold tickP; simp [hon], hA, hG]
  have hl2 : Does Try.prog 58 [pt p] [PpR p G] (Ret (.bool is) [PpR p G]) := by
    have := lineQ_d p G hok.wf
    rwa [his] at this
  have e : G = { σ with clock := 0, regs := upd (upd σ.regs 4 (σ.regs 4 + 1)) 4 0, seen := false, rows := 0 } := by
    rw [← hG]
    unfold nextP
    (repeat' split) <;> first | rfl | (exfalso; omega)
  clear hG hA hok
  subst e
  (focus
    refine Xg.spec_of Go.Proofs.Try.func38 rfl Go.Proofs.Try.ntmps38 fun g F => ?_)
  (focus
    refine Xg.at_seq ?_
    refine Xg.at_region ?_
    refine Xg.ops_op (by kernel_rfl) (Xg.opx_pure ((iv 0)) rfl (fun _ => by kernel_rfl) ?_)
    refine Xg.ops_nil ?_
    refine Xg.at_seq ?_
    refine Xg.at_seq ?_
    refine Xg.at_region ?_
    refine Xg.ops_op (by kernel_rfl) (Xg.opx_pure ((pv p 0)) rfl (fun _ => by kernel_rfl) ?_)
    refine Xg.ops_op (by kernel_rfl) (Xg.opx_call1' [0] [PpR p σ] (fun _ => by kernel_rfl) (@ho ) (by kernel_rfl) (by kernel_rfl) (by kernel_rfl) ?_)
    refine Xg.ops_op (by kernel_rfl) (Xg.opx_pure (.bool false) rfl (fun _ => by kernel_rfl) ?_)
    refine Xg.ops_nil ?_
    refine Xg.at_false (t := false) (by kernel_rfl) rfl ?_
    refine Xg.at_skip ?_
    refine Xg.at_seq ?_
    refine Xg.at_region ?_
    refine Xg.ops_op (by kernel_rfl) (Xg.opx_pure ((pv p 0)) rfl (fun _ => by kernel_rfl) ?_)
    refine Xg.ops_op (by kernel_rfl) (Xg.opx_call1' [0] [PpR p σ] (fun _ => by kernel_rfl) (@hl ) (by kernel_rfl) (by kernel_rfl) (by kernel_rfl) ?_)
    refine Xg.ops_op (by kernel_rfl) (Xg.opx_pure ((Value.bool was)) rfl (fun _ => by kernel_rfl) ?_)
    refine Xg.ops_nil ?_
    refine Xg.at_seq ?_
    refine Xg.at_region ?_
    refine Xg.ops_op (by kernel_rfl) (Xg.opx_pure ((iv 0)) rfl (fun _ => by kernel_rfl) ?_)
    refine Xg.ops_nil ?_
    refine Xg.at_seq ?_
    refine Xg.at_region ?_
    refine Xg.ops_op (by kernel_rfl) (Xg.opx_pure ((pv p 0)) rfl (fun _ => by kernel_rfl) ?_)
    refine Xg.ops_op (by kernel_rfl) (Xg.opx_pure ((pv p 0)) rfl (fun _ => by kernel_rfl) ?_)
    refine Xg.ops_op (by kernel_rfl) (Xg.opx_pure ((pv p 8364)) rfl (fun _ => by kernel_rfl) ?_)
    refine Xg.ops_op (by kernel_rfl) (Xg.opx_load (b := p) (off := ((8364 : Nat))) 0 (iv σ.clock) rfl (by kernel_rfl) (@Go.Proofs.Ytkfclamiendamaa.g_clock (σ)) (by kernel_rfl) ?_)
    refine Xg.ops_op (by kernel_rfl) (Xg.opx_int .i64 (IntKind.wrap .i64 ((σ.clock + (4 : Int)))) rfl (fun _ => by kernel_rfl) (Xg.wrap_i64_in (by omega)) ?_)
    refine Xg.ops_op (by kernel_rfl) (Xg.opx_pure ((pv p 0)) rfl (fun _ => by kernel_rfl) ?_)
    refine Xg.ops_op (by kernel_rfl) (Xg.opx_pure ((pv p 8364)) rfl (fun _ => by kernel_rfl) ?_)
    refine Xg.ops_op (by kernel_rfl) (Xg.opx_store_c (off := ((8364 : Nat))) (cs' := (ppc (Pp.mk σ.regs σ.vram σ.oam (σ.clock + (4 : Int)) σ.seen σ.rows σ.now σ.last))) 0 (iv (σ.clock + (4 : Int))) (by kernel_rfl) rfl (by kernel_rfl) (by kernel_rfl) (by kernel_rfl) (@Go.Proofs.Ytkfclamiendamaa.s_clock (σ) ((σ.clock + (4 : Int)))) ?_)
    refine Xg.ops_nil ?_
    refine Xg.at_seq ?_
    refine Xg.at_seq ?_
    refine Xg.at_region ?_
    refine Xg.ops_op (by kernel_rfl) (Xg.opx_pure ((pv p 0)) rfl (fun _ => by kernel_rfl) ?_)
    refine Xg.ops_op (by kernel_rfl) (Xg.opx_pure ((pv p 0)) rfl (fun _ => by kernel_rfl) ?_)
    refine Xg.ops_op (by kernel_rfl) (Xg.opx_pure ((pv p 8364)) rfl (fun _ => by kernel_rfl) ?_)
    refine Xg.ops_op (by kernel_rfl) (Xg.opx_load (b := p) (off := ((8364 : Nat))) 0 (iv (σ.clock + (4 : Int))) rfl (by kernel_rfl) (@Go.Proofs.Ytkfclamiendamaa.g_clock ((Pp.mk σ.regs σ.vram σ.oam (σ.clock + (4 : Int)) σ.seen σ.rows σ.now σ.last))) (by kernel_rfl) ?_)
    refine Xg.ops_nil ?_
    refine Xg.at_block ?_
    refine Xg.at_seq ?_
    refine Xg.at_region ?_
    refine Xg.ops_op (by kernel_rfl) (Xg.opx_pure (.bool (decide (((σ.clock + (4 : Int)) : Int) = ((80 : Int))))) rfl (fun _ => by kernel_rfl) ?_)
    refine Xg.ops_op (by kernel_rfl) (Xg.opx_pure ((Value.bool (decide (σ.clock + (4 : Int) = (80 : Int))))) rfl (fun _ => by kernel_rfl) ?_)
    refine Xg.ops_nil ?_
    refine Xg.at_false (t := decide ((σ.clock + (4 : Int) = (80 : Int)))) (by kernel_rfl) (decide_eq_false (by omega)) ?_
    refine Xg.at_seq ?_
    refine Xg.at_region ?_
    refine Xg.ops_op (by kernel_rfl) (Xg.opx_pure (.bool (decide (((σ.clock + (4 : Int)) : Int) = ((252 : Int))))) rfl (fun _ => by kernel_rfl) ?_)
    refine Xg.ops_op (by kernel_rfl) (Xg.opx_pure ((Value.bool (decide (σ.clock + (4 : Int) = (252 : Int))))) rfl (fun _ => by kernel_rfl) ?_)
    refine Xg.ops_nil ?_
    refine Xg.at_false (t := decide ((σ.clock + (4 : Int) = (252 : Int)))) (by kernel_rfl) (decide_eq_false (by omega)) ?_
    refine Xg.at_seq ?_
    refine Xg.at_region ?_
    refine Xg.ops_op (by kernel_rfl) (Xg.opx_pure (.bool (decide (((σ.clock + (4 : Int)) : Int) = ((456 : Int))))) rfl (fun _ => by kernel_rfl) ?_)
    refine Xg.ops_op (by kernel_rfl) (Xg.opx_pure ((Value.bool (decide (σ.clock + (4 : Int) = (456 : Int))))) rfl (fun _ => by kernel_rfl) ?_)
    refine Xg.ops_nil ?_
    refine Xg.at_true (t := decide ((σ.clock + (4 : Int) = (456 : Int)))) (by kernel_rfl) (decide_eq_true (by omega)) ?_
    refine Xg.at_seq ?_
    refine Xg.at_region ?_
    refine Xg.ops_op (by kernel_rfl) (Xg.opx_pure ((pv p 0)) rfl (fun _ => by kernel_rfl) ?_)
    refine Xg.ops_op (by kernel_rfl) (Xg.opx_pure ((pv p 0)) rfl (fun _ => by kernel_rfl) ?_)
    refine Xg.ops_op (by kernel_rfl) (Xg.opx_pure ((pv p 8364)) rfl (fun _ => by kernel_rfl) ?_)
    refine Xg.ops_op (by kernel_rfl) (Xg.opx_store_c (off := ((8364 : Nat))) (cs' := (ppc (Pp.mk σ.regs σ.vram σ.oam (0 : Int) σ.seen σ.rows σ.now σ.last))) 0 (iv 0) (by kernel_rfl) rfl (by kernel_rfl) (by kernel_rfl) (by kernel_rfl) (@Go.Proofs.Ytkfclamiendamaa.s_clock ((Pp.mk σ.regs σ.vram σ.oam (σ.clock + (4 : Int)) σ.seen σ.rows σ.now σ.last)) (((0 : Int)))) ?_)
    refine Xg.ops_nil ?_
    refine Xg.at_seq ?_
    refine Xg.at_draw [9] [(4, [0, 1, 2, 3, 4, 6, 7], Xg.CellIs (p) (((4 : Nat))) ((iv (σ.regs 4))))] (by kernel_rfl) ?_
    refine Xg.any_pure ((pv p 0)) 0 (by kernel_rfl) rfl (by kernel_rfl) (by kernel_rfl) (by kernel_rfl) (by kernel_rfl) rfl (fun _ => by kernel_rfl) ?_
    refine Xg.any_pure ((pv p 0)) 1 (by kernel_rfl) rfl (by kernel_rfl) (by kernel_rfl) (by kernel_rfl) (by kernel_rfl) rfl (fun _ => by kernel_rfl) ?_
    refine Xg.any_pure ((pv p 0)) 2 (by kernel_rfl) rfl (by kernel_rfl) (by kernel_rfl) (by kernel_rfl) (by kernel_rfl) rfl (fun _ => by kernel_rfl) ?_
    refine Xg.any_pure (pv p 4) 3 (by kernel_rfl) rfl (by kernel_rfl) (by kernel_rfl) (by kernel_rfl) (by kernel_rfl) rfl (fun _ => by kernel_rfl) ?_
    refine Xg.any_reads (iv (σ.regs 4)) 4 0 (by kernel_rfl) rfl (by kernel_rfl) (by kernel_rfl) (by kernel_rfl) (by kernel_rfl) rfl rfl (by kernel_rfl) (Xg.cell_now (b := p) (off := ((4 : Nat))) 0 rfl (@Go.Proofs.Ytkfclamiendamaa.g_regs ((Pp.mk σ.regs σ.vram σ.oam (0 : Int) σ.seen σ.rows σ.now σ.last)) (((4 : Nat))) (by omega))) (fun _ h => Xg.run_load (by kernel_rfl) (by kernel_rfl) h) ?_
    refine Xg.any_int .i64 (IntKind.wrap .i64 ((σ.regs 4 + (1 : Int)))) 5 (by kernel_rfl) rfl (by kernel_rfl) (by kernel_rfl) (by kernel_rfl) (by kernel_rfl) rfl (fun _ => by kernel_rfl) (Xg.wrap_i64_in (by omega)) ?_
    refine Xg.any_pure ((pv p 0)) 6 (by kernel_rfl) rfl (by kernel_rfl) (by kernel_rfl) (by kernel_rfl) (by kernel_rfl) rfl (fun _ => by kernel_rfl) ?_
    refine Xg.any_pure ((pv p 0)) 7 (by kernel_rfl) rfl (by kernel_rfl) (by kernel_rfl) (by kernel_rfl) (by kernel_rfl) rfl (fun _ => by kernel_rfl) ?_
    refine Xg.any_pure (pv p 4) 8 (by kernel_rfl) rfl (by kernel_rfl) (by kernel_rfl) (by kernel_rfl) (by kernel_rfl) rfl (fun _ => by kernel_rfl) ?_
    refine Xg.any_each [9] (by kernel_rfl) rfl ⟨?_, trivial⟩
    refine Xg.comes_act rfl (by kernel_rfl) (by kernel_rfl) (Xg.opx_store_c (off := ((4 : Nat))) (cs' := (ppc (Pp.mk (upd σ.regs 4 (σ.regs 4 + (1 : Int))) σ.vram σ.oam (0 : Int) σ.seen σ.rows σ.now σ.last))) 0 (iv (σ.regs 4 + (1 : Int))) (by kernel_rfl) rfl (by kernel_rfl) (by kernel_rfl) (by kernel_rfl) (@Go.Proofs.Ytkfclamiendamaa.s_regs ((Pp.mk σ.regs σ.vram σ.oam (0 : Int) σ.seen σ.rows σ.now σ.last)) (((4 : Nat))) ((σ.regs 4 + (1 : Int))) (by omega)) ?_)
    refine Xg.acts (Xg.owes_skip (by kernel_rfl) Xg.owes_nil) ?_
    refine Xg.any_nil (by kernel_rfl) ?_
    refine Xg.at_seq ?_
    refine Xg.at_region ?_
    refine Xg.ops_op (by kernel_rfl) (Xg.opx_pure ((pv p 0)) rfl (fun _ => by kernel_rfl) ?_)
    refine Xg.ops_op (by kernel_rfl) (Xg.opx_pure ((pv p 0)) rfl (fun _ => by kernel_rfl) ?_)
    refine Xg.ops_op (by kernel_rfl) (Xg.opx_pure ((pv p 0)) rfl (fun _ => by kernel_rfl) ?_)
    refine Xg.ops_op (by kernel_rfl) (Xg.opx_pure (pv p 4) rfl (fun _ => by kernel_rfl) ?_)
    refine Xg.ops_op (by kernel_rfl) (Xg.opx_load (b := p) (off := ((4 : Nat))) 0 (iv (σ.regs 4 + (1 : Int))) rfl (by kernel_rfl) (@Go.Proofs.Ytkfclamiendamaa.g_regs ((Pp.mk (upd σ.regs 4 (σ.regs 4 + (1 : Int))) σ.vram σ.oam (0 : Int) σ.seen σ.rows σ.now σ.last)) (((4 : Nat))) (by omega)) (by kernel_rfl) ?_)
    refine Xg.ops_nil ?_
    refine Xg.at_block ?_
    refine Xg.at_seq ?_
    refine Xg.at_region ?_
    refine Xg.ops_op (by kernel_rfl) (Xg.opx_pure (.bool (decide (((σ.regs 4 + (1 : Int)) : Int) = ((144 : Int))))) rfl (fun _ => by kernel_rfl) ?_)
    refine Xg.ops_op (by kernel_rfl) (Xg.opx_pure ((Value.bool (decide (σ.regs 4 + (1 : Int) = (144 : Int))))) rfl (fun _ => by kernel_rfl) ?_)
    refine Xg.ops_nil ?_
    refine Xg.at_false (t := decide ((σ.regs 4 + (1 : Int) = (144 : Int)))) (by kernel_rfl) (decide_eq_false (by omega)) ?_
    refine Xg.at_seq ?_
    refine Xg.at_region ?_
    refine Xg.ops_op (by kernel_rfl) (Xg.opx_pure (.bool (decide (((σ.regs 4 + (1 : Int)) : Int) = ((154 : Int))))) rfl (fun _ => by kernel_rfl) ?_)
    refine Xg.ops_op (by kernel_rfl) (Xg.opx_pure ((Value.bool (decide (σ.regs 4 + (1 : Int) = (154 : Int))))) rfl (fun _ => by kernel_rfl) ?_)
    refine Xg.ops_nil ?_
    refine Xg.at_true (t := decide ((σ.regs 4 + (1 : Int) = (154 : Int)))) (by kernel_rfl) (decide_eq_true (by omega)) ?_
    refine Xg.at_region ?_
    refine Xg.ops_op (by kernel_rfl) (Xg.opx_pure ((pv p 0)) rfl (fun _ => by kernel_rfl) ?_)
    refine Xg.ops_op (by kernel_rfl) (Xg.opx_call1' [0] [PpR p (Pp.mk (upd (upd σ.regs 4 (σ.regs 4 + (1 : Int))) (4 : Nat) (0 : Int)) σ.vram σ.oam (0 : Int) false (0 : Int) σ.now σ.last)] (fun _ => by kernel_rfl) (@Go.Proofs.Ytkfclamiendamaa.begin_d (p) ((Pp.mk (upd σ.regs 4 (σ.regs 4 + (1 : Int))) σ.vram σ.oam (0 : Int) σ.seen σ.rows σ.now σ.last))) (by kernel_rfl) (by kernel_rfl) (by kernel_rfl) ?_)
    refine Xg.ops_nil ?_
    refine Xg.at_inBlock ?_
    refine Xg.at_inBlock ?_
    refine Xg.at_seq ?_
    refine Xg.at_seq ?_
    refine Xg.at_region ?_
    refine Xg.ops_op (by kernel_rfl) (Xg.opx_pure ((Value.bool was)) rfl (fun _ => by kernel_rfl) ?_)
    refine Xg.ops_op (by kernel_rfl) (Xg.opx_pure (.bool (!was)) rfl (fun _ => by kernel_rfl) ?_)
    refine Xg.ops_op (by kernel_rfl) (Xg.opx_pure ((Value.bool !was)) rfl (fun _ => by kernel_rfl) ?_)
    refine Xg.ops_flag (j := 89) (c := !was) (by kernel_rfl) (fun xh1 => ?_) (fun xh1 => ?_)
    replace xh1 : was = false := by simpa using xh1
    rotate_left
    replace xh1 : was = true := by simpa using xh1
    rotate_right
    refine Xg.ops_op (by kernel_rfl) (Xg.opx_pure ((pv p 0)) rfl (fun _ => by kernel_rfl) ?_)
    refine Xg.ops_op (by kernel_rfl) (Xg.opx_call1' [0] [PpR p (Pp.mk (upd (upd σ.regs 4 (σ.regs 4 + (1 : Int))) (4 : Nat) (0 : Int)) σ.vram σ.oam (0 : Int) false (0 : Int) σ.now σ.last)] (fun _ => by kernel_rfl) (@hl2 ) (by kernel_rfl) (by kernel_rfl) (by kernel_rfl) ?_)
    refine Xg.ops_flag (j := 91) (c := is) (by kernel_rfl) (fun xh2 => ?_) (fun xh2 => ?_)
    refine Xg.ops_op (by kernel_rfl) (Xg.opx_pure ((Value.bool true)) rfl (fun _ => by kernel_rfl) ?_)
    refine Xg.ops_nil ?_
    refine Xg.at_true (t := true) (by kernel_rfl) rfl ?_
    refine Xg.at_region ?_
    refine Xg.ops_op (by kernel_rfl) (Xg.opx_pure ((iv 0)) rfl (fun _ => by kernel_rfl) ?_)
    refine Xg.ops_op (by kernel_rfl) (Xg.opx_pure ((iv 2)) rfl (fun _ => by kernel_rfl) ?_)
    refine Xg.ops_op (by kernel_rfl) (Xg.opx_pure ((iv 2)) rfl (fun _ => by kernel_rfl) ?_)
    refine Xg.ops_nil ?_
    refine Xg.at_seq ?_
    refine Xg.at_region ?_
    refine Xg.ops_op (by kernel_rfl) (Xg.opx_pure ((iv 2)) rfl (fun _ => by kernel_rfl) ?_)
    refine Xg.ops_op (by kernel_rfl) (Xg.opx_pure ((iv 2)) rfl (fun _ => by kernel_rfl) ?_)
    refine Xg.ops_nil ?_
    refine Xg.at_ret_ps (v := (iv 2)) [0] [PpR p (Pp.mk (upd (upd σ.regs 4 (σ.regs 4 + (1 : Int))) (4 : Nat) (0 : Int)) σ.vram σ.oam (0 : Int) false (0 : Int) σ.now σ.last)] Go.Proofs.Try.func38 (fun _ => by kernel_rfl) (by kernel_rfl) (by kernel_rfl) ?_
    rotate_left
    refine Xg.ops_op (by kernel_rfl) (Xg.opx_pure ((Value.bool false)) rfl (fun _ => by kernel_rfl) ?_)
    refine Xg.ops_nil ?_
    refine Xg.at_false (t := false) (by kernel_rfl) rfl ?_
    refine Xg.at_skip ?_
    refine Xg.at_seq ?_
    refine Xg.at_region ?_
    refine Xg.ops_op (by kernel_rfl) (Xg.opx_pure ((iv 0)) rfl (fun _ => by kernel_rfl) ?_)
    refine Xg.ops_op (by kernel_rfl) (Xg.opx_pure ((iv 0)) rfl (fun _ => by kernel_rfl) ?_)
    refine Xg.ops_nil ?_
    refine Xg.at_ret_ps (v := (iv 0)) [0] [PpR p (Pp.mk (upd (upd σ.regs 4 (σ.regs 4 + (1 : Int))) (4 : Nat) (0 : Int)) σ.vram σ.oam (0 : Int) false (0 : Int) σ.now σ.last)] Go.Proofs.Try.func38 (fun _ => by kernel_rfl) (by kernel_rfl) (by kernel_rfl) ?_
    rotate_left
    refine Xg.ops_skip (by kernel_rfl) ?_
    refine Xg.ops_skip (by kernel_rfl) ?_
    refine Xg.ops_op (by kernel_rfl) (Xg.opx_pure ((Value.bool false)) rfl (fun _ => by kernel_rfl) ?_)
    refine Xg.ops_nil ?_
    refine Xg.at_false (t := false) (by kernel_rfl) rfl ?_
    refine Xg.at_skip ?_
    refine Xg.at_seq ?_
    refine Xg.at_region ?_
    refine Xg.ops_op (by kernel_rfl) (Xg.opx_pure ((iv 0)) rfl (fun _ => by kernel_rfl) ?_)
    refine Xg.ops_op (by kernel_rfl) (Xg.opx_pure ((iv 0)) rfl (fun _ => by kernel_rfl) ?_)
    refine Xg.ops_nil ?_
    refine Xg.at_ret_ps (v := (iv 0)) [0] [PpR p (Pp.mk (upd (upd σ.regs 4 (σ.regs 4 + (1 : Int))) (4 : Nat) (0 : Int)) σ.vram σ.oam (0 : Int) false (0 : Int) σ.now σ.last)] Go.Proofs.Try.func38 (fun _ => by kernel_rfl) (by kernel_rfl) (by kernel_rfl) ?_)
  all_goals exact ⟨by first | rfl | (simp [askI, *]; done) | (simp [askI, *]; decide), rfl⟩

set_option maxHeartbeats 0 in
theorem tick_456c (p : Nat) (σ : Pp) (hσ : σ.Ok) (hon : hasB (σ.regs 0) 7 = true) (hc : σ.clock = 452) (hs : σ.regs 4 ≠ 143) (hs2 : σ.regs 4 ≠ 153) : Does Try.prog 38 [pt p] [PpR p σ] (Ret (.int .i64 (tickA σ)) [PpR p (tickP σ)]) := by
  have h0 := hσ.wf.regs 0
  have h4 := hσ.wf.regs 4
  have h10 := hσ.wf.regs 10
  have hly := hσ.wf.ly
  have hcl := hσ.wf.clock
  have hrw := hσ.rowsLy
  have hok := ok_next hσ
  have ho : Does Try.prog 57 [pt p] [PpR p σ] (Ret (.bool true) [PpR p σ]) := by
    have := on_d p σ h0
    rwa [hon] at this
  obtain ⟨was, hwas⟩ : ∃ b, lineB σ = b := ⟨_, rfl⟩
  have hl : Does Try.prog 58 [pt p] [PpR p σ] (Ret (.bool was) [PpR p σ]) := by
    have := lineQ_d p σ hσ.wf
    rwa [hwas] at this
  obtain ⟨G, hG⟩ : ∃ G, nextP σ = G := ⟨_, rfl⟩
  rw [hG] at hok
  obtain ⟨is, his⟩ : ∃ b, lineB G = b := ⟨_, rfl⟩
  have hA : tickA σ = askI was is 0 := by
    have e : (if σ.clock = 452 ∧ σ.regs 4 = 143 then (1 : Int) else 0) = 0 := by first | exact if_pos (by omega) | exact if_neg (by omega)
    unfold tickA askI
    rw [if_pos hon, e, hwas, hG, his]
    split <;> omega
  rw [show tickP σ = nextP σ from by unfold tickP; simp [hon], hA, hG]
  have hl2 : Does Try.prog 58 [pt p] [PpR p G] (Ret (.bool is) [PpR p G]) := by
    have := lineQ_d p G hok.wf
    rwa [his] at this
  have e : G = { σ with clock := 0, regs := upd σ.regs 4 (σ.regs 4 + 1) } := by
    rw [← hG]
    unfold nextP
    (repeat' split) <;> first | rfl | (exfalso; omega)
  clear hG hA hok
  subst e
  (focus
    refine Xg.spec_of Go.Proofs.Try.func38 rfl Go.Proofs.Try.ntmps38 fun g F => ?_)
  (focus
    refine Xg.at_seq ?_
    refine Xg.at_region ?_
    refine Xg.ops_op (by kernel_rfl) (Xg.opx_pure ((iv 0)) rfl (fun _ => by kernel_rfl) ?_)
    refine Xg.ops_nil ?_
    refine Xg.at_seq ?_
    refine Xg.at_seq ?_
    refine Xg.at_region ?_
    refine Xg.ops_op (by kernel_rfl) (Xg.opx_pure ((pv p 0)) rfl (fun _ => by kernel_rfl) ?_)
    refine Xg.ops_op (by kernel_rfl) (Xg.opx_call1' [0] [PpR p σ] (fun _ => by kernel_rfl) (@ho ) (by kernel_rfl) (by kernel_rfl) (by kernel_rfl) ?_)
    refine Xg.ops_op (by kernel_rfl) (Xg.opx_pure (.bool false) rfl (fun _ => by kernel_rfl) ?_)
    refine Xg.ops_nil ?_
    refine Xg.at_false (t := false) (by kernel_rfl) rfl ?_
    refine Xg.at_skip ?_
    refine Xg.at_seq ?_
    refine Xg.at_region ?_
    refine Xg.ops_op (by kernel_rfl) (Xg.opx_pure ((pv p 0)) rfl (fun _ => by kernel_rfl) ?_)
    refine Xg.ops_op (by kernel_rfl) (Xg.opx_call1' [0] [PpR p σ] (fun _ => by kernel_rfl) (@hl ) (by kernel_rfl) (by kernel_rfl) (by kernel_rfl) ?_)
    refine Xg.ops_op (by kernel_rfl) (Xg.opx_pure ((Value.bool was)) rfl (fun _ => by kernel_rfl) ?_)
    refine Xg.ops_nil ?_
    refine Xg.at_seq ?_
    refine Xg.at_region ?_
    refine Xg.ops_op (by kernel_rfl) (Xg.opx_pure ((iv 0)) rfl (fun _ => by kernel_rfl) ?_)
    refine Xg.ops_nil ?_
    refine Xg.at_seq ?_
    refine Xg.at_region ?_
    refine Xg.ops_op (by kernel_rfl) (Xg.opx_pure ((pv p 0)) rfl (fun _ => by kernel_rfl) ?_)
    refine Xg.ops_op (by kernel_rfl) (Xg.opx_pure ((pv p 0)) rfl (fun _ => by kernel_rfl) ?_)
    refine Xg.ops_op (by kernel_rfl) (Xg.opx_pure ((pv p 8364)) rfl (fun _ => by kernel_rfl) ?_)
    refine Xg.ops_op (by kernel_rfl) (Xg.opx_load (b := p) (off := ((8364 : Nat))) 0 (iv σ.clock) rfl (by kernel_rfl) (@Go.Proofs.Ytkfclamiendamaa.g_clock (σ)) (by kernel_rfl) ?_)
    refine Xg.ops_op (by kernel_rfl) (Xg.opx_int .i64 (IntKind.wrap .i64 ((σ.clock + (4 : Int)))) rfl (fun _ => by kernel_rfl) (Xg.wrap_i64_in (by omega)) ?_)
    refine Xg.ops_op (by kernel_rfl) (Xg.opx_pure ((pv p 0)) rfl (fun _ => by kernel_rfl) ?_)
    refine Xg.ops_op (by kernel_rfl) (Xg.opx_pure ((pv p 8364)) rfl (fun _ => by kernel_rfl) ?_)
    refine Xg.ops_op (by kernel_rfl) (Xg.opx_store_c (off := ((8364 : Nat))) (cs' := (ppc (Pp.mk σ.regs σ.vram σ.oam (σ.clock + (4 : Int)) σ.seen σ.rows σ.now σ.last))) 0 (iv (σ.clock + (4 : Int))) (by kernel_rfl) rfl (by kernel_rfl) (by kernel_rfl) (by kernel_rfl) (@Go.Proofs.Ytkfclamiendamaa.s_clock (σ) ((σ.clock + (4 : Int)))) ?_)
    refine Xg.ops_nil ?_
    refine Xg.at_seq ?_
    refine Xg.at_seq ?_
    refine Xg.at_region ?_
    refine Xg.ops_op (by kernel_rfl) (Xg.opx_pure ((pv p 0)) rfl (fun _ => by kernel_rfl) ?_)
    refine Xg.ops_op (by kernel_rfl) (Xg.opx_pure ((pv p 0)) rfl (fun _ => by kernel_rfl) ?_)
    refine Xg.ops_op (by kernel_rfl) (Xg.opx_pure ((pv p 8364)) rfl (fun _ => by kernel_rfl) ?_)
    refine Xg.ops_op (by kernel_rfl) (Xg.opx_load (b := p) (off := ((8364 : Nat))) 0 (iv (σ.clock + (4 : Int))) rfl (by kernel_rfl) (@Go.Proofs.Ytkfclamiendamaa.g_clock ((Pp.mk σ.regs σ.vram σ.oam (σ.clock + (4 : Int)) σ.seen σ.rows σ.now σ.last))) (by kernel_rfl) ?_)
    refine Xg.ops_nil ?_
    refine Xg.at_block ?_
    refine Xg.at_seq ?_
    refine Xg.at_region ?_
    refine Xg.ops_op (by kernel_rfl) (Xg.opx_pure (.bool (decide (((σ.clock + (4 : Int)) : Int) = ((80 : Int))))) rfl (fun _ => by kernel_rfl) ?_)
    refine Xg.ops_op (by kernel_rfl) (Xg.opx_pure ((Value.bool (decide (σ.clock + (4 : Int) = (80 : Int))))) rfl (fun _ => by kernel_rfl) ?_)
    refine Xg.ops_nil ?_
    refine Xg.at_false (t := decide ((σ.clock + (4 : Int) = (80 : Int)))) (by kernel_rfl) (decide_eq_false (by omega)) ?_
    refine Xg.at_seq ?_
    refine Xg.at_region ?_
    refine Xg.ops_op (by kernel_rfl) (Xg.opx_pure (.bool (decide (((σ.clock + (4 : Int)) : Int) = ((252 : Int))))) rfl (fun _ => by kernel_rfl) ?_)
    refine Xg.ops_op (by kernel_rfl) (Xg.opx_pure ((Value.bool (decide (σ.clock + (4 : Int) = (252 : Int))))) rfl (fun _ => by kernel_rfl) ?_)
    refine Xg.ops_nil ?_
    refine Xg.at_false (t := decide ((σ.clock + (4 : Int) = (252 : Int)))) (by kernel_rfl) (decide_eq_false (by omega)) ?_
    refine Xg.at_seq ?_
    refine Xg.at_region ?_
    refine Xg.ops_op (by kernel_rfl) (Xg.opx_pure (.bool (decide (((σ.clock + (4 : Int)) : Int) = ((456 : Int))))) rfl (fun _ => by kernel_rfl) ?_)
    refine Xg.ops_op (by kernel_rfl) (Xg.opx_pure ((Value.bool (decide (σ.clock + (4 : Int) = (456 : Int))))) rfl (fun _ => by kernel_rfl) ?_)
    refine Xg.ops_nil ?_
    refine Xg.at_true (t := decide ((σ.clock + (4 : Int) = (456 : Int)))) (by kernel_rfl) (decide_eq_true (by omega)) ?_
    refine Xg.at_seq ?_
    refine Xg.at_region ?_
    refine Xg.ops_op (by kernel_rfl) (Xg.opx_pure ((pv p 0)) rfl (fun _ => by kernel_rfl) ?_)
    refine Xg.ops_op (by kernel_rfl) (Xg.opx_pure ((pv p 0)) rfl (fun _ => by kernel_rfl) ?_)
    refine Xg.ops_op (by kernel_rfl) (Xg.opx_pure ((pv p 8364)) rfl (fun _ => by kernel_rfl) ?_)
    refine Xg.ops_op (by kernel_rfl) (Xg.opx_store_c (off := ((8364 : Nat))) (cs' := (ppc (Pp.mk σ.regs σ.vram σ.oam (0 : Int) σ.seen σ.rows σ.now σ.last))) 0 (iv 0) (by kernel_rfl) rfl (by kernel_rfl) (by kernel_rfl) (by kernel_rfl) (@Go.Proofs.Ytkfclamiendamaa.s_clock ((Pp.mk σ.regs σ.vram σ.oam (σ.clock + (4 : Int)) σ.seen σ.rows σ.now σ.last)) (((0 : Int)))) ?_)
    refine Xg.ops_nil ?_
    refine Xg.at_seq ?_
    refine Xg.at_draw [9] [(4, [0, 1, 2, 3, 4, 6, 7], Xg.CellIs (p) (((4 : Nat))) ((iv (σ.regs 4))))] (by kernel_rfl) ?_
    refine Xg.any_pure ((pv p 0)) 0 (by kernel_rfl) rfl (by kernel_rfl) (by kernel_rfl) (by kernel_rfl) (by kernel_rfl) rfl (fun _ => by kernel_rfl) ?_
    refine Xg.any_pure ((pv p 0)) 1 (by kernel_rfl) rfl (by kernel_rfl) (by kernel_rfl) (by kernel_rfl) (by kernel_rfl) rfl (fun _ => by kernel_rfl) ?_
    refine Xg.any_pure ((pv p 0)) 2 (by kernel_rfl) rfl (by kernel_rfl) (by kernel_rfl) (by kernel_rfl) (by kernel_rfl) rfl (fun _ => by kernel_rfl) ?_
    refine Xg.any_pure (pv p 4) 3 (by kernel_rfl) rfl (by kernel_rfl) (by kernel_rfl) (by kernel_rfl) (by kernel_rfl) rfl (fun _ => by kernel_rfl) ?_
    refine Xg.any_reads (iv (σ.regs 4)) 4 0 (by kernel_rfl) rfl (by kernel_rfl) (by kernel_rfl) (by kernel_rfl) (by kernel_rfl) rfl rfl (by kernel_rfl) (Xg.cell_now (b := p) (off := ((4 : Nat))) 0 rfl (@Go.Proofs.Ytkfclamiendamaa.g_regs ((Pp.mk σ.regs σ.vram σ.oam (0 : Int) σ.seen σ.rows σ.now σ.last)) (((4 : Nat))) (by omega))) (fun _ h => Xg.run_load (by kernel_rfl) (by kernel_rfl) h) ?_
    refine Xg.any_int .i64 (IntKind.wrap .i64 ((σ.regs 4 + (1 : Int)))) 5 (by kernel_rfl) rfl (by kernel_rfl) (by kernel_rfl) (by kernel_rfl) (by kernel_rfl) rfl (fun _ => by kernel_rfl) (Xg.wrap_i64_in (by omega)) ?_
    refine Xg.any_pure ((pv p 0)) 6 (by kernel_rfl) rfl (by kernel_rfl) (by kernel_rfl) (by kernel_rfl) (by kernel_rfl) rfl (fun _ => by kernel_rfl) ?_
    refine Xg.any_pure ((pv p 0)) 7 (by kernel_rfl) rfl (by kernel_rfl) (by kernel_rfl) (by kernel_rfl) (by kernel_rfl) rfl (fun _ => by kernel_rfl) ?_
    refine Xg.any_pure (pv p 4) 8 (by kernel_rfl) rfl (by kernel_rfl) (by kernel_rfl) (by kernel_rfl) (by kernel_rfl) rfl (fun _ => by kernel_rfl) ?_
    refine Xg.any_each [9] (by kernel_rfl) rfl ⟨?_, trivial⟩
    refine Xg.comes_act rfl (by kernel_rfl) (by kernel_rfl) (Xg.opx_store_c (off := ((4 : Nat))) (cs' := (ppc (Pp.mk (upd σ.regs 4 (σ.regs 4 + (1 : Int))) σ.vram σ.oam (0 : Int) σ.seen σ.rows σ.now σ.last))) 0 (iv (σ.regs 4 + (1 : Int))) (by kernel_rfl) rfl (by kernel_rfl) (by kernel_rfl) (by kernel_rfl) (@Go.Proofs.Ytkfclamiendamaa.s_regs ((Pp.mk σ.regs σ.vram σ.oam (0 : Int) σ.seen σ.rows σ.now σ.last)) (((4 : Nat))) ((σ.regs 4 + (1 : Int))) (by omega)) ?_)
    refine Xg.acts (Xg.owes_skip (by kernel_rfl) Xg.owes_nil) ?_
    refine Xg.any_nil (by kernel_rfl) ?_
    refine Xg.at_seq ?_
    refine Xg.at_region ?_
    refine Xg.ops_op (by kernel_rfl) (Xg.opx_pure ((pv p 0)) rfl (fun _ => by kernel_rfl) ?_)
    refine Xg.ops_op (by kernel_rfl) (Xg.opx_pure ((pv p 0)) rfl (fun _ => by kernel_rfl) ?_)
    refine Xg.ops_op (by kernel_rfl) (Xg.opx_pure ((pv p 0)) rfl (fun _ => by kernel_rfl) ?_)
    refine Xg.ops_op (by kernel_rfl) (Xg.opx_pure (pv p 4) rfl (fun _ => by kernel_rfl) ?_)
    refine Xg.ops_op (by kernel_rfl) (Xg.opx_load (b := p) (off := ((4 : Nat))) 0 (iv (σ.regs 4 + (1 : Int))) rfl (by kernel_rfl) (@Go.Proofs.Ytkfclamiendamaa.g_regs ((Pp.mk (upd σ.regs 4 (σ.regs 4 + (1 : Int))) σ.vram σ.oam (0 : Int) σ.seen σ.rows σ.now σ.last)) (((4 : Nat))) (by omega)) (by kernel_rfl) ?_)
    refine Xg.ops_nil ?_
    refine Xg.at_block ?_
    refine Xg.at_seq ?_
    refine Xg.at_region ?_
    refine Xg.ops_op (by kernel_rfl) (Xg.opx_pure (.bool (decide (((σ.regs 4 + (1 : Int)) : Int) = ((144 : Int))))) rfl (fun _ => by kernel_rfl) ?_)
    refine Xg.ops_op (by kernel_rfl) (Xg.opx_pure ((Value.bool (decide (σ.regs 4 + (1 : Int) = (144 : Int))))) rfl (fun _ => by kernel_rfl) ?_)
    refine Xg.ops_nil ?_
    refine Xg.at_false (t := decide ((σ.regs 4 + (1 : Int) = (144 : Int)))) (by kernel_rfl) (decide_eq_false (by omega)) ?_
    refine Xg.at_seq ?_
    refine Xg.at_region ?_
    refine Xg.ops_op (by kernel_rfl) (Xg.opx_pure (.bool (decide (((σ.regs 4 + (1 : Int)) : Int) = ((154 : Int))))) rfl (fun _ => by kernel_rfl) ?_)
    refine Xg.ops_op (by kernel_rfl) (Xg.opx_pure ((Value.bool (decide (σ.regs 4 + (1 : Int) = (154 : Int))))) rfl (fun _ => by kernel_rfl) ?_)
    refine Xg.ops_nil ?_
    refine Xg.at_false (t := decide ((σ.regs 4 + (1 : Int) = (154 : Int)))) (by kernel_rfl) (decide_eq_false (by omega)) ?_
    refine Xg.at_skip ?_
    refine Xg.at_inBlock ?_
    refine Xg.at_inBlock ?_
    refine Xg.at_seq ?_
    refine Xg.at_seq ?_
    refine Xg.at_region ?_
    refine Xg.ops_op (by kernel_rfl) (Xg.opx_pure ((Value.bool was)) rfl (fun _ => by kernel_rfl) ?_)
    refine Xg.ops_op (by kernel_rfl) (Xg.opx_pure (.bool (!was)) rfl (fun _ => by kernel_rfl) ?_)
    refine Xg.ops_op (by kernel_rfl) (Xg.opx_pure ((Value.bool !was)) rfl (fun _ => by kernel_rfl) ?_)
    refine Xg.ops_flag (j := 89) (c := !was) (by kernel_rfl) (fun xh1 => ?_) (fun xh1 => ?_)
    replace xh1 : was = false := by simpa using xh1
    rotate_left
    replace xh1 : was = true := by simpa using xh1
    rotate_right
    refine Xg.ops_op (by kernel_rfl) (Xg.opx_pure ((pv p 0)) rfl (fun _ => by kernel_rfl) ?_)
    refine Xg.ops_op (by kernel_rfl) (Xg.opx_call1' [0] [PpR p (Pp.mk (upd σ.regs 4 (σ.regs 4 + (1 : Int))) σ.vram σ.oam (0 : Int) σ.seen σ.rows σ.now σ.last)] (fun _ => by kernel_rfl) (@hl2 ) (by kernel_rfl) (by kernel_rfl) (by kernel_rfl) ?_)
    refine Xg.ops_flag (j := 91) (c := is) (by kernel_rfl) (fun xh2 => ?_) (fun xh2 => ?_)
    refine Xg.ops_op (by kernel_rfl) (Xg.opx_pure ((Value.bool true)) rfl (fun _ => by kernel_rfl) ?_)
    refine Xg.ops_nil ?_
    refine Xg.at_true (t := true) (by kernel_rfl) rfl ?_
    refine Xg.at_region ?_
    refine Xg.ops_op (by kernel_rfl) (Xg.opx_pure ((iv 0)) rfl (fun _ => by kernel_rfl) ?_)
    refine Xg.ops_op (by kernel_rfl) (Xg.opx_pure ((iv 2)) rfl (fun _ => by kernel_rfl) ?_)
    refine Xg.ops_op (by kernel_rfl) (Xg.opx_pure ((iv 2)) rfl (fun _ => by kernel_rfl) ?_)
    refine Xg.ops_nil ?_
    refine Xg.at_seq ?_
    refine Xg.at_region ?_
    refine Xg.ops_op (by kernel_rfl) (Xg.opx_pure ((iv 2)) rfl (fun _ => by kernel_rfl) ?_)
    refine Xg.ops_op (by kernel_rfl) (Xg.opx_pure ((iv 2)) rfl (fun _ => by kernel_rfl) ?_)
    refine Xg.ops_nil ?_
    refine Xg.at_ret_ps (v := (iv 2)) [0] [PpR p (Pp.mk (upd σ.regs 4 (σ.regs 4 + (1 : Int))) σ.vram σ.oam (0 : Int) σ.seen σ.rows σ.now σ.last)] Go.Proofs.Try.func38 (fun _ => by kernel_rfl) (by kernel_rfl) (by kernel_rfl) ?_
    rotate_left
    refine Xg.ops_op (by kernel_rfl) (Xg.opx_pure ((Value.bool false)) rfl (fun _ => by kernel_rfl) ?_)
    refine Xg.ops_nil ?_
    refine Xg.at_false (t := false) (by kernel_rfl) rfl ?_
    refine Xg.at_skip ?_
    refine Xg.at_seq ?_
    refine Xg.at_region ?_
    refine Xg.ops_op (by kernel_rfl) (Xg.opx_pure ((iv 0)) rfl (fun _ => by kernel_rfl) ?_)
    refine Xg.ops_op (by kernel_rfl) (Xg.opx_pure ((iv 0)) rfl (fun _ => by kernel_rfl) ?_)
    refine Xg.ops_nil ?_
    refine Xg.at_ret_ps (v := (iv 0)) [0] [PpR p (Pp.mk (upd σ.regs 4 (σ.regs 4 + (1 : Int))) σ.vram σ.oam (0 : Int) σ.seen σ.rows σ.now σ.last)] Go.Proofs.Try.func38 (fun _ => by kernel_rfl) (by kernel_rfl) (by kernel_rfl) ?_
    rotate_left
    refine Xg.ops_skip (by kernel_rfl) ?_
    refine Xg.ops_skip (by kernel_rfl) ?_
    refine Xg.ops_op (by kernel_rfl) (Xg.opx_pure ((Value.bool false)) rfl (fun _ => by kernel_rfl) ?_)
    refine Xg.ops_nil ?_
    refine Xg.at_false (t := false) (by kernel_rfl) rfl ?_
    refine Xg.at_skip ?_
    refine Xg.at_seq ?_
    refine Xg.at_region ?_
    refine Xg.ops_op (by kernel_rfl) (Xg.opx_pure ((iv 0)) rfl (fun _ => by kernel_rfl) ?_)
    refine Xg.ops_op (by kernel_rfl) (Xg.opx_pure ((iv 0)) rfl (fun _ => by kernel_rfl) ?_)
    refine Xg.ops_nil ?_
    refine Xg.at_ret_ps (v := (iv 0)) [0] [row p (77 : TypeId) (ppc (Pp.mk (upd σ.regs 4 (σ.regs 4 + (1 : Int))) σ.vram σ.oam (0 : Int) σ.seen σ.rows σ.now σ.last))] Go.Proofs.Try.func38 (fun _ => by kernel_rfl) (by kernel_rfl) (by kernel_rfl) ?_)
  all_goals exact ⟨by first | rfl | (simp [askI, *]; done) | (simp [askI, *]; decide), rfl⟩

set_option maxHeartbeats 0 in
theorem tick_0 (p : Nat) (σ : Pp) (hσ : σ.Ok) (hon : hasB (σ.regs 0) 7 = true) (hc : σ.clock ≠ 76) (hc2 : σ.clock ≠ 248) (hc3 : σ.clock ≠ 452) : Does Try.prog 38 [pt p] [PpR p σ] (Ret (.int .i64 (tickA σ)) [PpR p (tickP σ)]) := by
  have h0 := hσ.wf.regs 0
  have h4 := hσ.wf.regs 4
  have h10 := hσ.wf.regs 10
  have hly := hσ.wf.ly
  have hcl := hσ.wf.clock
  have hrw := hσ.rowsLy
  have hok := ok_next hσ
  have ho : Does Try.prog 57 [pt p] [PpR p σ] (Ret (.bool true) [PpR p σ]) := by
    have := on_d p σ h0
    rwa [hon] at this
  obtain ⟨was, hwas⟩ : ∃ b, lineB σ = b := ⟨_, rfl⟩
  have hl : Does Try.prog 58 [pt p] [PpR p σ] (Ret (.bool was) [PpR p σ]) := by
    have := lineQ_d p σ hσ.wf
    rwa [hwas] at this
  obtain ⟨G, hG⟩ : ∃ G, nextP σ = G := ⟨_, rfl⟩
  rw [hG] at hok
  obtain ⟨is, his⟩ : ∃ b, lineB G = b := ⟨_, rfl⟩
  have hA : tickA σ = askI was is 0 := by
    have e : (if σ.clock = 452 ∧ σ.regs 4 = 143 then (1 : Int) else 0) = 0 := by first | exact if_pos (by omega) | exact if_neg (by omega)
    unfold tickA askI
    rw [if_pos hon, e, hwas, hG, his]
    split <;> omega
  rw [show tickP σ = nextP σ from by unfold tickP; simp [hon], hA, hG]
  have hl2 : Does Try.prog 58 [pt p] [PpR p G] (Ret (.bool is) [PpR p G]) := by
    have := lineQ_d p G hok.wf
    rwa [his] at this
  have e : G = { σ with clock := σ.clock + 4 } := by
    rw [← hG]
    unfold nextP
    (repeat' split) <;> first | rfl | (exfalso; omega)
  clear hG hA hok
  subst e
  (focus
    refine Xg.spec_of Go.Proofs.Try.func38 rfl Go.Proofs.Try.ntmps38 fun g F => ?_)
  (focus
    refine Xg.at_seq ?_
    refine Xg.at_region ?_
    refine Xg.ops_op (by kernel_rfl) (Xg.opx_pure ((iv 0)) rfl (fun _ => by kernel_rfl) ?_)
    refine Xg.ops_nil ?_
    refine Xg.at_seq ?_
    refine Xg.at_seq ?_
    refine Xg.at_region ?_
    refine Xg.ops_op (by kernel_rfl) (Xg.opx_pure ((pv p 0)) rfl (fun _ => by kernel_rfl) ?_)
    refine Xg.ops_op (by kernel_rfl) (Xg.opx_call1' [0] [PpR p σ] (fun _ => by kernel_rfl) (@ho ) (by kernel_rfl) (by kernel_rfl) (by kernel_rfl) ?_)
    refine Xg.ops_op (by kernel_rfl) (Xg.opx_pure (.bool false) rfl (fun _ => by kernel_rfl) ?_)
    refine Xg.ops_nil ?_
    refine Xg.at_false (t := false) (by kernel_rfl) rfl ?_
    refine Xg.at_skip ?_
    refine Xg.at_seq ?_
    refine Xg.at_region ?_
    refine Xg.ops_op (by kernel_rfl) (Xg.opx_pure ((pv p 0)) rfl (fun _ => by kernel_rfl) ?_)
    refine Xg.ops_op (by kernel_rfl) (Xg.opx_call1' [0] [PpR p σ] (fun _ => by kernel_rfl) (@hl ) (by kernel_rfl) (by kernel_rfl) (by kernel_rfl) ?_)
    refine Xg.ops_op (by kernel_rfl) (Xg.opx_pure ((Value.bool was)) rfl (fun _ => by kernel_rfl) ?_)
    refine Xg.ops_nil ?_
    refine Xg.at_seq ?_
    refine Xg.at_region ?_
    refine Xg.ops_op (by kernel_rfl) (Xg.opx_pure ((iv 0)) rfl (fun _ => by kernel_rfl) ?_)
    refine Xg.ops_nil ?_
    refine Xg.at_seq ?_
    refine Xg.at_region ?_
    refine Xg.ops_op (by kernel_rfl) (Xg.opx_pure ((pv p 0)) rfl (fun _ => by kernel_rfl) ?_)
    refine Xg.ops_op (by kernel_rfl) (Xg.opx_pure ((pv p 0)) rfl (fun _ => by kernel_rfl) ?_)
    refine Xg.ops_op (by kernel_rfl) (Xg.opx_pure ((pv p 8364)) rfl (fun _ => by kernel_rfl) ?_)
    refine Xg.ops_op (by kernel_rfl) (Xg.opx_load (b := p) (off := ((8364 : Nat))) 0 (iv σ.clock) rfl (by kernel_rfl) (@Go.Proofs.Ytkfclamiendamaa.g_clock (σ)) (by kernel_rfl) ?_)
    refine Xg.ops_op (by kernel_rfl) (Xg.opx_int .i64 (IntKind.wrap .i64 ((σ.clock + (4 : Int)))) rfl (fun _ => by kernel_rfl) (Xg.wrap_i64_in (by omega)) ?_)
    refine Xg.ops_op (by kernel_rfl) (Xg.opx_pure ((pv p 0)) rfl (fun _ => by kernel_rfl) ?_)
    refine Xg.ops_op (by kernel_rfl) (Xg.opx_pure ((pv p 8364)) rfl (fun _ => by kernel_rfl) ?_)
    refine Xg.ops_op (by kernel_rfl) (Xg.opx_store_c (off := ((8364 : Nat))) (cs' := (ppc (Pp.mk σ.regs σ.vram σ.oam (σ.clock + (4 : Int)) σ.seen σ.rows σ.now σ.last))) 0 (iv (σ.clock + (4 : Int))) (by kernel_rfl) rfl (by kernel_rfl) (by kernel_rfl) (by kernel_rfl) (@Go.Proofs.Ytkfclamiendamaa.s_clock (σ) ((σ.clock + (4 : Int)))) ?_)
    refine Xg.ops_nil ?_
    refine Xg.at_seq ?_
    refine Xg.at_seq ?_
    refine Xg.at_region ?_
    refine Xg.ops_op (by kernel_rfl) (Xg.opx_pure ((pv p 0)) rfl (fun _ => by kernel_rfl) ?_)
    refine Xg.ops_op (by kernel_rfl) (Xg.opx_pure ((pv p 0)) rfl (fun _ => by kernel_rfl) ?_)
    refine Xg.ops_op (by kernel_rfl) (Xg.opx_pure ((pv p 8364)) rfl (fun _ => by kernel_rfl) ?_)
    refine Xg.ops_op (by kernel_rfl) (Xg.opx_load (b := p) (off := ((8364 : Nat))) 0 (iv (σ.clock + (4 : Int))) rfl (by kernel_rfl) (@Go.Proofs.Ytkfclamiendamaa.g_clock ((Pp.mk σ.regs σ.vram σ.oam (σ.clock + (4 : Int)) σ.seen σ.rows σ.now σ.last))) (by kernel_rfl) ?_)
    refine Xg.ops_nil ?_
    refine Xg.at_block ?_
    refine Xg.at_seq ?_
    refine Xg.at_region ?_
    refine Xg.ops_op (by kernel_rfl) (Xg.opx_pure (.bool (decide (((σ.clock + (4 : Int)) : Int) = ((80 : Int))))) rfl (fun _ => by kernel_rfl) ?_)
    refine Xg.ops_op (by kernel_rfl) (Xg.opx_pure ((Value.bool (decide (σ.clock + (4 : Int) = (80 : Int))))) rfl (fun _ => by kernel_rfl) ?_)
    refine Xg.ops_nil ?_
    refine Xg.at_false (t := decide ((σ.clock + (4 : Int) = (80 : Int)))) (by kernel_rfl) (decide_eq_false (by omega)) ?_
    refine Xg.at_seq ?_
    refine Xg.at_region ?_
    refine Xg.ops_op (by kernel_rfl) (Xg.opx_pure (.bool (decide (((σ.clock + (4 : Int)) : Int) = ((252 : Int))))) rfl (fun _ => by kernel_rfl) ?_)
    refine Xg.ops_op (by kernel_rfl) (Xg.opx_pure ((Value.bool (decide (σ.clock + (4 : Int) = (252 : Int))))) rfl (fun _ => by kernel_rfl) ?_)
    refine Xg.ops_nil ?_
    refine Xg.at_false (t := decide ((σ.clock + (4 : Int) = (252 : Int)))) (by kernel_rfl) (decide_eq_false (by omega)) ?_
    refine Xg.at_seq ?_
    refine Xg.at_region ?_
    refine Xg.ops_op (by kernel_rfl) (Xg.opx_pure (.bool (decide (((σ.clock + (4 : Int)) : Int) = ((456 : Int))))) rfl (fun _ => by kernel_rfl) ?_)
    refine Xg.ops_op (by kernel_rfl) (Xg.opx_pure ((Value.bool (decide (σ.clock + (4 : Int) = (456 : Int))))) rfl (fun _ => by kernel_rfl) ?_)
    refine Xg.ops_nil ?_
    refine Xg.at_false (t := decide ((σ.clock + (4 : Int) = (456 : Int)))) (by kernel_rfl) (decide_eq_false (by omega)) ?_
    refine Xg.at_skip ?_
    refine Xg.at_inBlock ?_
    refine Xg.at_seq ?_
    refine Xg.at_seq ?_
    refine Xg.at_region ?_
    refine Xg.ops_op (by kernel_rfl) (Xg.opx_pure ((Value.bool was)) rfl (fun _ => by kernel_rfl) ?_)
    refine Xg.ops_op (by kernel_rfl) (Xg.opx_pure (.bool (!was)) rfl (fun _ => by kernel_rfl) ?_)
    refine Xg.ops_op (by kernel_rfl) (Xg.opx_pure ((Value.bool !was)) rfl (fun _ => by kernel_rfl) ?_)
    refine Xg.ops_flag (j := 89) (c := !was) (by kernel_rfl) (fun xh1 => ?_) (fun xh1 => ?_)
    replace xh1 : was = false := by simpa using xh1
    rotate_left
    replace xh1 : was = true := by simpa using xh1
    rotate_right
    refine Xg.ops_op (by kernel_rfl) (Xg.opx_pure ((pv p 0)) rfl (fun _ => by kernel_rfl) ?_)
    refine Xg.ops_op (by kernel_rfl) (Xg.opx_call1' [0] [PpR p (Pp.mk σ.regs σ.vram σ.oam (σ.clock + (4 : Int)) σ.seen σ.rows σ.now σ.last)] (fun _ => by kernel_rfl) (@hl2 ) (by kernel_rfl) (by kernel_rfl) (by kernel_rfl) ?_)
    refine Xg.ops_flag (j := 91) (c := is) (by kernel_rfl) (fun xh2 => ?_) (fun xh2 => ?_)
    refine Xg.ops_op (by kernel_rfl) (Xg.opx_pure ((Value.bool true)) rfl (fun _ => by kernel_rfl) ?_)
    refine Xg.ops_nil ?_
    refine Xg.at_true (t := true) (by kernel_rfl) rfl ?_
    refine Xg.at_region ?_
    refine Xg.ops_op (by kernel_rfl) (Xg.opx_pure ((iv 0)) rfl (fun _ => by kernel_rfl) ?_)
    refine Xg.ops_op (by kernel_rfl) (Xg.opx_pure ((iv 2)) rfl (fun _ => by kernel_rfl) ?_)
    refine Xg.ops_op (by kernel_rfl) (Xg.opx_pure ((iv 2)) rfl (fun _ => by kernel_rfl) ?_)
    refine Xg.ops_nil ?_
    refine Xg.at_seq ?_
    refine Xg.at_region ?_
    refine Xg.ops_op (by kernel_rfl) (Xg.opx_pure ((iv 2)) rfl (fun _ => by kernel_rfl) ?_)
    refine Xg.ops_op (by kernel_rfl) (Xg.opx_pure ((iv 2)) rfl (fun _ => by kernel_rfl) ?_)
    refine Xg.ops_nil ?_
    refine Xg.at_ret_ps (v := (iv 2)) [0] [PpR p (Pp.mk σ.regs σ.vram σ.oam (σ.clock + (4 : Int)) σ.seen σ.rows σ.now σ.last)] Go.Proofs.Try.func38 (fun _ => by kernel_rfl) (by kernel_rfl) (by kernel_rfl) ?_
    rotate_left
    refine Xg.ops_op (by kernel_rfl) (Xg.opx_pure ((Value.bool false)) rfl (fun _ => by kernel_rfl) ?_)
    refine Xg.ops_nil ?_
    refine Xg.at_false (t := false) (by kernel_rfl) rfl ?_
    refine Xg.at_skip ?_
    refine Xg.at_seq ?_
    refine Xg.at_region ?_
    refine Xg.ops_op (by kernel_rfl) (Xg.opx_pure ((iv 0)) rfl (fun _ => by kernel_rfl) ?_)
    refine Xg.ops_op (by kernel_rfl) (Xg.opx_pure ((iv 0)) rfl (fun _ => by kernel_rfl) ?_)
    refine Xg.ops_nil ?_
    refine Xg.at_ret_ps (v := (iv 0)) [0] [PpR p (Pp.mk σ.regs σ.vram σ.oam (σ.clock + (4 : Int)) σ.seen σ.rows σ.now σ.last)] Go.Proofs.Try.func38 (fun _ => by kernel_rfl) (by kernel_rfl) (by kernel_rfl) ?_
    rotate_left
    refine Xg.ops_skip (by kernel_rfl) ?_
    refine Xg.ops_skip (by kernel_rfl) ?_
    refine Xg.ops_op (by kernel_rfl) (Xg.opx_pure ((Value.bool false)) rfl (fun _ => by kernel_rfl) ?_)
    refine Xg.ops_nil ?_
    refine Xg.at_false (t := false) (by kernel_rfl) rfl ?_
    refine Xg.at_skip ?_
    refine Xg.at_seq ?_
    refine Xg.at_region ?_
    refine Xg.ops_op (by kernel_rfl) (Xg.opx_pure ((iv 0)) rfl (fun _ => by kernel_rfl) ?_)
    refine Xg.ops_op (by kernel_rfl) (Xg.opx_pure ((iv 0)) rfl (fun _ => by kernel_rfl) ?_)
    refine Xg.ops_nil ?_
    refine Xg.at_ret_ps (v := (iv 0)) [0] [row p (77 : TypeId) (ppc (Pp.mk σ.regs σ.vram σ.oam (σ.clock + (4 : Int)) σ.seen σ.rows σ.now σ.last))] Go.Proofs.Try.func38 (fun _ => by kernel_rfl) (by kernel_rfl) (by kernel_rfl) ?_)
  all_goals exact ⟨by first | rfl | (simp [askI, *]; done) | (simp [askI, *]; decide), rfl⟩

theorem tick_off (p : Nat) (σ : Pp) (hσ : σ.Ok) (hon : hasB (σ.regs 0) 7 = false) : Does Try.prog 38 [pt p] [PpR p σ] (Ret (.int .i64 (tickA σ)) [PpR p (tickP σ)]) := by
  have h0 := hσ.wf.regs 0
  have ho : Does Try.prog 57 [pt p] [PpR p σ] (Ret (.bool false) [PpR p σ]) := by
    have := on_d p σ h0
    rwa [hon] at this
  rw [show tickP σ = σ from by unfold tickP; simp [hon], show tickA σ = 0 from by unfold tickA; simp [hon]]
  (focus
    refine Xg.spec_of Go.Proofs.Try.func38 rfl Go.Proofs.Try.ntmps38 fun g F => ?_)
  (focus
    refine Xg.at_seq ?_
    refine Xg.at_region ?_
    refine Xg.ops_op (by kernel_rfl) (Xg.opx_pure ((iv 0)) rfl (fun _ => by kernel_rfl) ?_)
    refine Xg.ops_nil ?_
    refine Xg.at_seq ?_
    refine Xg.at_seq ?_
    refine Xg.at_region ?_
    refine Xg.ops_op (by kernel_rfl) (Xg.opx_pure ((pv p 0)) rfl (fun _ => by kernel_rfl) ?_)
    refine Xg.ops_op (by kernel_rfl) (Xg.opx_call1' [0] [PpR p σ] (fun _ => by kernel_rfl) (@ho ) (by kernel_rfl) (by kernel_rfl) (by kernel_rfl) ?_)
    refine Xg.ops_op (by kernel_rfl) (Xg.opx_pure (.bool true) rfl (fun _ => by kernel_rfl) ?_)
    refine Xg.ops_nil ?_
    refine Xg.at_true (t := true) (by kernel_rfl) rfl ?_
    refine Xg.at_seq ?_
    refine Xg.at_region ?_
    refine Xg.ops_op (by kernel_rfl) (Xg.opx_pure ((iv 0)) rfl (fun _ => by kernel_rfl) ?_)
    refine Xg.ops_nil ?_
    refine Xg.at_ret_ps (v := (iv 0)) [0] [PpR p σ] Go.Proofs.Try.func38 (fun _ => by kernel_rfl) (by kernel_rfl) (by kernel_rfl) ?_
    exact ⟨by kernel_rfl, by kernel_rfl⟩)

theorem tick_d0 (p : Nat) (σ : Pp) (hσ : σ.Ok) : Does Try.prog 38 [pt p] [PpR p σ] (Ret (.int .i64 (tickA σ)) [PpR p (tickP σ)]) := by
  cases hon : hasB (σ.regs 0) 7
  · exact tick_off p σ hσ hon
  by_cases c1 : σ.clock = 76
  · by_cases hs : σ.regs 4 < 144 ∧ σ.regs 4 = σ.regs 10
    · exact tick_80a p σ hσ hon c1 hs
    · exact tick_80b p σ hσ hon c1 hs
  by_cases c2 : σ.clock = 248
  · by_cases hs : σ.regs 4 < 144
    · exact tick_252a p σ hσ hon c2 hs
    · exact tick_252b p σ hσ hon c2 hs
  by_cases c3 : σ.clock = 452
  · by_cases hs : σ.regs 4 = 143
    · exact tick_456a p σ hσ hon c3 hs
    · by_cases hs2 : σ.regs 4 = 153
      · exact tick_456b p σ hσ hon c3 hs2
      · exact tick_456c p σ hσ hon c3 hs hs2
  exact tick_0 p σ hσ hon c1 c2 c3

/-- A Tick, by names. -/
theorem tick_d (p : Nat) (σ : Pp) (hσ : σ.Ok) : Does Try.prog 38 [pt p] [PpR p σ]
    (RetE (fun x : Pp × Int => x.1 = tickP σ ∧ x.2 = tickA σ ∧ x.1.Ok ∧ 0 ≤ x.2 ∧ x.2 ≤ 3) (fun x => .int .i64 x.2) (fun x => [PpR p x.1])) :=
  (tick_d0 p σ hσ).mono fun _ _ ⟨e1, e2⟩ => ⟨(tickP σ, tickA σ), ⟨rfl, rfl, ok_tick hσ, tickA_bd σ⟩, e1, e2⟩
/-- A write, by names. -/
theorem write_k (p : Nat) (σ : Pp) (hσ : σ.Ok) (a d : Int) (ha : -9223372036854775808 ≤ a ∧ a ≤ 9223372036854775807) : Does Try.prog 22 [pt p, .int .i64 a, .int .i64 d] [PpR p σ]
    (RetE (fun x : Pp => x = writeP σ a d ∧ x.Ok) (fun _ => .tuple #[]) (fun x => [PpR p x])) :=
  (write_d p σ hσ.wf a d ha).mono fun _ _ ⟨e1, e2⟩ => ⟨writeP σ a d, ⟨rfl, ok_write hσ a d⟩, e1, e2⟩
/-- A new one, by names. -/
theorem new_k : Does Try.prog 21 [] [] (RetE (fun x : Nat × Pp => x.2 = newP ∧ x.2.Ok) (fun x => pt x.1) (fun x => [PpR x.1 x.2])) :=
  new_d.mono fun _ _ ⟨p, _, e1, e2⟩ => ⟨(p, newP), ⟨rfl, ok_new⟩, e1, e2⟩

end Go.Proofs.Ytkfclamiendamaa
