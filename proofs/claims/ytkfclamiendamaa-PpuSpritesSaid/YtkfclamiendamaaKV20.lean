/- The picture's functions: a Tick. -/
import Derived.Test.YtkfclamiendamaaKV17
import Derived.Test.YtkfclamiendamaaKS
namespace Go.Proofs.Ytkfclamiendamaa
open Go.Sl Go.Xg
set_option linter.unusedVariables false
set_option linter.unusedSimpArgs false
set_option maxHeartbeats 4000000
set_option maxRecDepth 100000
/-- The cells of a picture, which nothing unfolds. -/
noncomputable def segN : (Nat → Int) → List Value := Classical.choose (⟨fun f => seg .u8 23040 f, rfl⟩ : ∃ h : (Nat → Int) → List Value, h = fun f => seg .u8 23040 f)
theorem segN_eq (f : Nat → Int) : segN f = seg .u8 23040 f := congrFun (Classical.choose_spec (⟨fun f => seg .u8 23040 f, rfl⟩ : ∃ h : (Nat → Int) → List Value, h = fun f => seg .u8 23040 f)) f
theorem segN_len (f : Nat → Int) : (segN f).length = 23040 := by rw [segN_eq]; exact seg_len _ _ _
theorem segN_one (f : Nat → Int) : ∀ v ∈ segN f, v.oneCell' = true := by rw [segN_eq]; exact seg_one
theorem hn_now (σ : Pp) : Has (ppc σ) 8367 (segN σ.now) := by rw [segN_eq]; exact (h_now) σ
theorem pn_last (σ : Pp) (f : Nat → Int) : Puts (ppc σ) 31407 (segN f) (ppc { σ with last := f }) := by rw [segN_eq]; exact (p_last) σ f

/-- What is asked, by the STAT line ahead and behind. -/
def askI (was is : Bool) (a : Int) : Int := if was = false ∧ is = true then a + 2 else a

set_option maxHeartbeats 0 in
theorem tick_456a (p : Nat) (σ : Pp) (hσ : σ.Ok) (hon : hasB (σ.regs 0) 7 = true) (hc : σ.clock = 452) (hs : σ.regs 4 = 143) : Does Try.prog 38 [pt p] [PpR p σ] (Ret (.int .i64 (tickA σ)) [PpR p (tickP σ)]) := by
  have h0 := hσ.wf.regs 0
  have h4 := hσ.wf.regs 4
  have h10 := hσ.wf.regs 10
  have hly := hσ.wf.ly
  have hcl := hσ.wf.clock
  have hrw := hσ.rowsLy
  have hok := ok_next hσ
  have ho : Does Try.prog 57 [pt p] [PpR p σ] (Ret (.bool true) [PpR p σ]) := by
    have := on_d p σ h0
    rwa [hon] at this
  obtain ⟨was, hwas⟩ : ∃ b, lineB σ = b := ⟨_, rfl⟩
  have hl : Does Try.prog 58 [pt p] [PpR p σ] (Ret (.bool was) [PpR p σ]) := by
    have := lineQ_d p σ hσ.wf
    rwa [hwas] at this
  obtain ⟨G, hG⟩ : ∃ G, nextP σ = G := ⟨_, rfl⟩
  rw [hG] at hok
  obtain ⟨is, his⟩ : ∃ b, lineB G = b := ⟨_, rfl⟩
  have hA : tickA σ = askI was is 1 := by
    have e : (if σ.clock = 452 ∧ σ.regs 4 = 143 then (1 : Int) else 0) = 1 := by first | exact if_pos (by omega) | exact if_neg (by omega)
    unfold tickA askI
    rw [if_pos hon, e, hwas, hG, his]
    split <;> omega
  rw [show tickP σ = nextP σ from by unfold tickP; simp [hon], hA, hG]
  have hl2 : Does Try.prog 58 [pt p] [PpR p G] (Ret (.bool is) [PpR p G]) := by
    have := lineQ_d p G hok.wf
    rwa [his] at this
  have e : G = { σ with clock := 0, regs := upd σ.regs 4 (σ.regs 4 + 1), last := σ.now } := by
    rw [← hG]
    unfold nextP
    (repeat' split) <;> first | rfl | (exfalso; omega)
  clear hG hA hok
  subst e
  have hN := segN_len σ.now
  have hN1 := segN_one σ.now
  (focus
    refine Xg.spec_of Go.Proofs.Try.func38 rfl Go.Proofs.Try.ntmps38 fun g F => ?_)
  (focus
    refine Xg.at_seq ?_
    refine Xg.at_region ?_
    refine Xg.ops_op (by kernel_rfl) (Xg.opx_pure ((iv 0)) rfl (fun _ => by kernel_rfl) ?_)
    refine Xg.ops_nil ?_
    refine Xg.at_seq ?_
    refine Xg.at_seq ?_
    refine Xg.at_region ?_
    refine Xg.ops_op (by kernel_rfl) (Xg.opx_pure ((pv p 0)) rfl (fun _ => by kernel_rfl) ?_)
    refine Xg.ops_op (by kernel_rfl) (Xg.opx_call1' [0] [PpR p σ] (fun _ => by kernel_rfl) (@ho ) (by kernel_rfl) (by kernel_rfl) (by kernel_rfl) ?_)
    refine Xg.ops_op (by kernel_rfl) (Xg.opx_pure (.bool false) rfl (fun _ => by kernel_rfl) ?_)
    refine Xg.ops_nil ?_
    refine Xg.at_false (t := false) (by kernel_rfl) rfl ?_
    refine Xg.at_skip ?_
    refine Xg.at_seq ?_
    refine Xg.at_region ?_
    refine Xg.ops_op (by kernel_rfl) (Xg.opx_pure ((pv p 0)) rfl (fun _ => by kernel_rfl) ?_)
    refine Xg.ops_op (by kernel_rfl) (Xg.opx_call1' [0] [PpR p σ] (fun _ => by kernel_rfl) (@hl ) (by kernel_rfl) (by kernel_rfl) (by kernel_rfl) ?_)
    refine Xg.ops_op (by kernel_rfl) (Xg.opx_pure ((Value.bool was)) rfl (fun _ => by kernel_rfl) ?_)
    refine Xg.ops_nil ?_
    refine Xg.at_seq ?_
    refine Xg.at_region ?_
    refine Xg.ops_op (by kernel_rfl) (Xg.opx_pure ((iv 0)) rfl (fun _ => by kernel_rfl) ?_)
    refine Xg.ops_nil ?_
    refine Xg.at_seq ?_
    refine Xg.at_region ?_
    refine Xg.ops_op (by kernel_rfl) (Xg.opx_pure ((pv p 0)) rfl (fun _ => by kernel_rfl) ?_)
    refine Xg.ops_op (by kernel_rfl) (Xg.opx_pure ((pv p 0)) rfl (fun _ => by kernel_rfl) ?_)
    refine Xg.ops_op (by kernel_rfl) (Xg.opx_pure ((pv p 8364)) rfl (fun _ => by kernel_rfl) ?_)
    refine Xg.ops_op (by kernel_rfl) (Xg.opx_load (b := p) (off := ((8364 : Nat))) 0 (iv σ.clock) rfl (by kernel_rfl) (@Go.Proofs.Ytkfclamiendamaa.g_clock (σ)) (by kernel_rfl) ?_)
    refine Xg.ops_op (by kernel_rfl) (Xg.opx_int .i64 (IntKind.wrap .i64 ((σ.clock + (4 : Int)))) rfl (fun _ => by kernel_rfl) (Xg.wrap_i64_in (by omega)) ?_)
    refine Xg.ops_op (by kernel_rfl) (Xg.opx_pure ((pv p 0)) rfl (fun _ => by kernel_rfl) ?_)
    refine Xg.ops_op (by kernel_rfl) (Xg.opx_pure ((pv p 8364)) rfl (fun _ => by kernel_rfl) ?_)
    refine Xg.ops_op (by kernel_rfl) (Xg.opx_store_c (off := ((8364 : Nat))) (cs' := (ppc (Pp.mk σ.regs σ.vram σ.oam (σ.clock + (4 : Int)) σ.seen σ.rows σ.now σ.last))) 0 (iv (σ.clock + (4 : Int))) (by kernel_rfl) rfl (by kernel_rfl) (by kernel_rfl) (by kernel_rfl) (@Go.Proofs.Ytkfclamiendamaa.s_clock (σ) ((σ.clock + (4 : Int)))) ?_)
    refine Xg.ops_nil ?_
    refine Xg.at_seq ?_
    refine Xg.at_seq ?_
    refine Xg.at_region ?_
    refine Xg.ops_op (by kernel_rfl) (Xg.opx_pure ((pv p 0)) rfl (fun _ => by kernel_rfl) ?_)
    refine Xg.ops_op (by kernel_rfl) (Xg.opx_pure ((pv p 0)) rfl (fun _ => by kernel_rfl) ?_)
    refine Xg.ops_op (by kernel_rfl) (Xg.opx_pure ((pv p 8364)) rfl (fun _ => by kernel_rfl) ?_)
    refine Xg.ops_op (by kernel_rfl) (Xg.opx_load (b := p) (off := ((8364 : Nat))) 0 (iv (σ.clock + (4 : Int))) rfl (by kernel_rfl) (@Go.Proofs.Ytkfclamiendamaa.g_clock ((Pp.mk σ.regs σ.vram σ.oam (σ.clock + (4 : Int)) σ.seen σ.rows σ.now σ.last))) (by kernel_rfl) ?_)
    refine Xg.ops_nil ?_
    refine Xg.at_block ?_
    refine Xg.at_seq ?_
    refine Xg.at_region ?_
    refine Xg.ops_op (by kernel_rfl) (Xg.opx_pure (.bool (decide (((σ.clock + (4 : Int)) : Int) = ((80 : Int))))) rfl (fun _ => by kernel_rfl) ?_)
    refine Xg.ops_op (by kernel_rfl) (Xg.opx_pure ((Value.bool (decide (σ.clock + (4 : Int) = (80 : Int))))) rfl (fun _ => by kernel_rfl) ?_)
    refine Xg.ops_nil ?_
    refine Xg.at_false (t := decide ((σ.clock + (4 : Int) = (80 : Int)))) (by kernel_rfl) (decide_eq_false (by omega)) ?_
    refine Xg.at_seq ?_
    refine Xg.at_region ?_
    refine Xg.ops_op (by kernel_rfl) (Xg.opx_pure (.bool (decide (((σ.clock + (4 : Int)) : Int) = ((252 : Int))))) rfl (fun _ => by kernel_rfl) ?_)
    refine Xg.ops_op (by kernel_rfl) (Xg.opx_pure ((Value.bool (decide (σ.clock + (4 : Int) = (252 : Int))))) rfl (fun _ => by kernel_rfl) ?_)
    refine Xg.ops_nil ?_
    refine Xg.at_false (t := decide ((σ.clock + (4 : Int) = (252 : Int)))) (by kernel_rfl) (decide_eq_false (by omega)) ?_
    refine Xg.at_seq ?_
    refine Xg.at_region ?_
    refine Xg.ops_op (by kernel_rfl) (Xg.opx_pure (.bool (decide (((σ.clock + (4 : Int)) : Int) = ((456 : Int))))) rfl (fun _ => by kernel_rfl) ?_)
    refine Xg.ops_op (by kernel_rfl) (Xg.opx_pure ((Value.bool (decide (σ.clock + (4 : Int) = (456 : Int))))) rfl (fun _ => by kernel_rfl) ?_)
    refine Xg.ops_nil ?_
    refine Xg.at_true (t := decide ((σ.clock + (4 : Int) = (456 : Int)))) (by kernel_rfl) (decide_eq_true (by omega)) ?_
    refine Xg.at_seq ?_
    refine Xg.at_region ?_
    refine Xg.ops_op (by kernel_rfl) (Xg.opx_pure ((pv p 0)) rfl (fun _ => by kernel_rfl) ?_)
    refine Xg.ops_op (by kernel_rfl) (Xg.opx_pure ((pv p 0)) rfl (fun _ => by kernel_rfl) ?_)
    refine Xg.ops_op (by kernel_rfl) (Xg.opx_pure ((pv p 8364)) rfl (fun _ => by kernel_rfl) ?_)
    refine Xg.ops_op (by kernel_rfl) (Xg.opx_store_c (off := ((8364 : Nat))) (cs' := (ppc (Pp.mk σ.regs σ.vram σ.oam (0 : Int) σ.seen σ.rows σ.now σ.last))) 0 (iv 0) (by kernel_rfl) rfl (by kernel_rfl) (by kernel_rfl) (by kernel_rfl) (@Go.Proofs.Ytkfclamiendamaa.s_clock ((Pp.mk σ.regs σ.vram σ.oam (σ.clock + (4 : Int)) σ.seen σ.rows σ.now σ.last)) (((0 : Int)))) ?_)
    refine Xg.ops_nil ?_
    refine Xg.at_seq ?_
    refine Xg.at_draw [9] [(4, [0, 1, 2, 3, 4, 6, 7], Xg.CellIs (p) (((4 : Nat))) ((iv (σ.regs 4))))] (by kernel_rfl) ?_
    refine Xg.any_pure ((pv p 0)) 0 (by kernel_rfl) rfl (by kernel_rfl) (by kernel_rfl) (by kernel_rfl) (by kernel_rfl) rfl (fun _ => by kernel_rfl) ?_
    refine Xg.any_pure ((pv p 0)) 1 (by kernel_rfl) rfl (by kernel_rfl) (by kernel_rfl) (by kernel_rfl) (by kernel_rfl) rfl (fun _ => by kernel_rfl) ?_
    refine Xg.any_pure ((pv p 0)) 2 (by kernel_rfl) rfl (by kernel_rfl) (by kernel_rfl) (by kernel_rfl) (by kernel_rfl) rfl (fun _ => by kernel_rfl) ?_
    refine Xg.any_pure (pv p 4) 3 (by kernel_rfl) rfl (by kernel_rfl) (by kernel_rfl) (by kernel_rfl) (by kernel_rfl) rfl (fun _ => by kernel_rfl) ?_
    refine Xg.any_reads (iv (σ.regs 4)) 4 0 (by kernel_rfl) rfl (by kernel_rfl) (by kernel_rfl) (by kernel_rfl) (by kernel_rfl) rfl rfl (by kernel_rfl) (Xg.cell_now (b := p) (off := ((4 : Nat))) 0 rfl (@Go.Proofs.Ytkfclamiendamaa.g_regs ((Pp.mk σ.regs σ.vram σ.oam (0 : Int) σ.seen σ.rows σ.now σ.last)) (((4 : Nat))) (by omega))) (fun _ h => Xg.run_load (by kernel_rfl) (by kernel_rfl) h) ?_
    refine Xg.any_int .i64 (IntKind.wrap .i64 ((σ.regs 4 + (1 : Int)))) 5 (by kernel_rfl) rfl (by kernel_rfl) (by kernel_rfl) (by kernel_rfl) (by kernel_rfl) rfl (fun _ => by kernel_rfl) (Xg.wrap_i64_in (by omega)) ?_
    refine Xg.any_pure ((pv p 0)) 6 (by kernel_rfl) rfl (by kernel_rfl) (by kernel_rfl) (by kernel_rfl) (by kernel_rfl) rfl (fun _ => by kernel_rfl) ?_
    refine Xg.any_pure ((pv p 0)) 7 (by kernel_rfl) rfl (by kernel_rfl) (by kernel_rfl) (by kernel_rfl) (by kernel_rfl) rfl (fun _ => by kernel_rfl) ?_
    refine Xg.any_pure (pv p 4) 8 (by kernel_rfl) rfl (by kernel_rfl) (by kernel_rfl) (by kernel_rfl) (by kernel_rfl) rfl (fun _ => by kernel_rfl) ?_
    refine Xg.any_each [9] (by kernel_rfl) rfl ⟨?_, trivial⟩
    refine Xg.comes_act rfl (by kernel_rfl) (by kernel_rfl) (Xg.opx_store_c (off := ((4 : Nat))) (cs' := (ppc (Pp.mk (upd σ.regs 4 (σ.regs 4 + (1 : Int))) σ.vram σ.oam (0 : Int) σ.seen σ.rows σ.now σ.last))) 0 (iv (σ.regs 4 + (1 : Int))) (by kernel_rfl) rfl (by kernel_rfl) (by kernel_rfl) (by kernel_rfl) (@Go.Proofs.Ytkfclamiendamaa.s_regs ((Pp.mk σ.regs σ.vram σ.oam (0 : Int) σ.seen σ.rows σ.now σ.last)) (((4 : Nat))) ((σ.regs 4 + (1 : Int))) (by omega)) ?_)
    refine Xg.acts (Xg.owes_skip (by kernel_rfl) Xg.owes_nil) ?_
    refine Xg.any_nil (by kernel_rfl) ?_
    refine Xg.at_seq ?_
    refine Xg.at_region ?_
    refine Xg.ops_op (by kernel_rfl) (Xg.opx_pure ((pv p 0)) rfl (fun _ => by kernel_rfl) ?_)
    refine Xg.ops_op (by kernel_rfl) (Xg.opx_pure ((pv p 0)) rfl (fun _ => by kernel_rfl) ?_)
    refine Xg.ops_op (by kernel_rfl) (Xg.opx_pure ((pv p 0)) rfl (fun _ => by kernel_rfl) ?_)
    refine Xg.ops_op (by kernel_rfl) (Xg.opx_pure (pv p 4) rfl (fun _ => by kernel_rfl) ?_)
    refine Xg.ops_op (by kernel_rfl) (Xg.opx_load (b := p) (off := ((4 : Nat))) 0 (iv (σ.regs 4 + (1 : Int))) rfl (by kernel_rfl) (@Go.Proofs.Ytkfclamiendamaa.g_regs ((Pp.mk (upd σ.regs 4 (σ.regs 4 + (1 : Int))) σ.vram σ.oam (0 : Int) σ.seen σ.rows σ.now σ.last)) (((4 : Nat))) (by omega)) (by kernel_rfl) ?_)
    refine Xg.ops_nil ?_
    refine Xg.at_block ?_
    refine Xg.at_seq ?_
    refine Xg.at_region ?_
    refine Xg.ops_op (by kernel_rfl) (Xg.opx_pure (.bool (decide (((σ.regs 4 + (1 : Int)) : Int) = ((144 : Int))))) rfl (fun _ => by kernel_rfl) ?_)
    refine Xg.ops_op (by kernel_rfl) (Xg.opx_pure ((Value.bool (decide (σ.regs 4 + (1 : Int) = (144 : Int))))) rfl (fun _ => by kernel_rfl) ?_)
    refine Xg.ops_nil ?_
    refine Xg.at_true (t := decide ((σ.regs 4 + (1 : Int) = (144 : Int)))) (by kernel_rfl) (decide_eq_true (by omega)) ?_
    refine Xg.at_seq ?_
    refine Xg.at_region ?_
    refine Xg.ops_op (by kernel_rfl) (Xg.opx_pure ((pv p 0)) rfl (fun _ => by kernel_rfl) ?_)
    refine Xg.ops_op (by kernel_rfl) (Xg.opx_pure ((pv p 0)) rfl (fun _ => by kernel_rfl) ?_)
    refine Xg.ops_op (by kernel_rfl) (Xg.opx_pure ((pv p 0)) rfl (fun _ => by kernel_rfl) ?_)
    refine Xg.ops_op (by kernel_rfl) (Xg.opx_pure ((pv p 8367)) rfl (fun _ => by kernel_rfl) ?_)
    refine Xg.ops_op (by kernel_rfl) (Xg.opx_loadn (off := ((8367 : Nat))) 23040 0 (segN σ.now) (by kernel_rfl) rfl (by kernel_rfl) (by first | assumption | exact Xg.seg_len _ _ _ | rfl) (@Go.Proofs.Ytkfclamiendamaa.hn_now ((Pp.mk (upd σ.regs 4 (σ.regs 4 + (1 : Int))) σ.vram σ.oam (0 : Int) σ.seen σ.rows σ.now σ.last))) (by kernel_rfl) ?_)
    refine Xg.ops_op (by kernel_rfl) (Xg.opx_pure ((pv p 0)) rfl (fun _ => by kernel_rfl) ?_)
    refine Xg.ops_op (by kernel_rfl) (Xg.opx_pure ((pv p 31407)) rfl (fun _ => by kernel_rfl) ?_)
    refine Xg.ops_op (by kernel_rfl) (Xg.opx_storen_c (off := ((31407 : Nat))) (cs' := (ppc (Pp.mk (upd σ.regs 4 (σ.regs 4 + (1 : Int))) σ.vram σ.oam (0 : Int) σ.seen σ.rows σ.now σ.now))) 23040 0 (segN σ.now) (by kernel_rfl) rfl (by kernel_rfl) (by kernel_rfl) (by first | assumption | exact Xg.seg_len _ _ _ | rfl) (by first | assumption | exact Xg.seg_one) (@Go.Proofs.Ytkfclamiendamaa.pn_last ((Pp.mk (upd σ.regs 4 (σ.regs 4 + (1 : Int))) σ.vram σ.oam (0 : Int) σ.seen σ.rows σ.now σ.last)) ((σ.now))) ?_)
    refine Xg.ops_nil ?_
    refine Xg.at_region ?_
    refine Xg.ops_op (by kernel_rfl) (Xg.opx_pure ((iv 1)) rfl (fun _ => by kernel_rfl) ?_)
    refine Xg.ops_nil ?_
    refine Xg.at_inBlock ?_
    refine Xg.at_inBlock ?_
    refine Xg.at_seq ?_
    refine Xg.at_seq ?_
    refine Xg.at_region ?_
    refine Xg.ops_op (by kernel_rfl) (Xg.opx_pure ((Value.bool was)) rfl (fun _ => by kernel_rfl) ?_)
    refine Xg.ops_op (by kernel_rfl) (Xg.opx_pure (.bool (!was)) rfl (fun _ => by kernel_rfl) ?_)
    refine Xg.ops_op (by kernel_rfl) (Xg.opx_pure ((Value.bool !was)) rfl (fun _ => by kernel_rfl) ?_)
    refine Xg.ops_flag (j := 89) (c := !was) (by kernel_rfl) (fun xh1 => ?_) (fun xh1 => ?_)
    replace xh1 : was = false := by simpa using xh1
    rotate_left
    replace xh1 : was = true := by simpa using xh1
    rotate_right
    refine Xg.ops_op (by kernel_rfl) (Xg.opx_pure ((pv p 0)) rfl (fun _ => by kernel_rfl) ?_)
    refine Xg.ops_op (by kernel_rfl) (Xg.opx_call1' [0] [PpR p (Pp.mk (upd σ.regs 4 (σ.regs 4 + (1 : Int))) σ.vram σ.oam (0 : Int) σ.seen σ.rows σ.now σ.now)] (fun _ => by kernel_rfl) (@hl2 ) (by kernel_rfl) (by kernel_rfl) (by kernel_rfl) ?_)
    refine Xg.ops_flag (j := 91) (c := is) (by kernel_rfl) (fun xh2 => ?_) (fun xh2 => ?_)
    refine Xg.ops_op (by kernel_rfl) (Xg.opx_pure ((Value.bool true)) rfl (fun _ => by kernel_rfl) ?_)
    refine Xg.ops_nil ?_
    refine Xg.at_true (t := true) (by kernel_rfl) rfl ?_
    refine Xg.at_region ?_
    refine Xg.ops_op (by kernel_rfl) (Xg.opx_pure ((iv 1)) rfl (fun _ => by kernel_rfl) ?_)
    refine Xg.ops_op (by kernel_rfl) (Xg.opx_pure ((iv 3)) rfl (fun _ => by kernel_rfl) ?_)
    refine Xg.ops_op (by kernel_rfl) (Xg.opx_pure ((iv 3)) rfl (fun _ => by kernel_rfl) ?_)
    refine Xg.ops_nil ?_
    refine Xg.at_seq ?_
    refine Xg.at_region ?_
    refine Xg.ops_op (by kernel_rfl) (Xg.opx_pure ((iv 3)) rfl (fun _ => by kernel_rfl) ?_)
    refine Xg.ops_op (by kernel_rfl) (Xg.opx_pure ((iv 3)) rfl (fun _ => by kernel_rfl) ?_)
    refine Xg.ops_nil ?_
    refine Xg.at_ret_ps (v := (iv 3)) [0] [PpR p (Pp.mk (upd σ.regs 4 (σ.regs 4 + (1 : Int))) σ.vram σ.oam (0 : Int) σ.seen σ.rows σ.now σ.now)] Go.Proofs.Try.func38 (fun _ => by kernel_rfl) (by kernel_rfl) (by kernel_rfl) ?_
    rotate_left
    refine Xg.ops_op (by kernel_rfl) (Xg.opx_pure ((Value.bool false)) rfl (fun _ => by kernel_rfl) ?_)
    refine Xg.ops_nil ?_
    refine Xg.at_false (t := false) (by kernel_rfl) rfl ?_
    refine Xg.at_skip ?_
    refine Xg.at_seq ?_
    refine Xg.at_region ?_
    refine Xg.ops_op (by kernel_rfl) (Xg.opx_pure ((iv 1)) rfl (fun _ => by kernel_rfl) ?_)
    refine Xg.ops_op (by kernel_rfl) (Xg.opx_pure ((iv 1)) rfl (fun _ => by kernel_rfl) ?_)
    refine Xg.ops_nil ?_
    refine Xg.at_ret_ps (v := (iv 1)) [0] [PpR p (Pp.mk (upd σ.regs 4 (σ.regs 4 + (1 : Int))) σ.vram σ.oam (0 : Int) σ.seen σ.rows σ.now σ.now)] Go.Proofs.Try.func38 (fun _ => by kernel_rfl) (by kernel_rfl) (by kernel_rfl) ?_
    rotate_left
    refine Xg.ops_skip (by kernel_rfl) ?_
    refine Xg.ops_skip (by kernel_rfl) ?_
    refine Xg.ops_op (by kernel_rfl) (Xg.opx_pure ((Value.bool false)) rfl (fun _ => by kernel_rfl) ?_)
    refine Xg.ops_nil ?_
    refine Xg.at_false (t := false) (by kernel_rfl) rfl ?_
    refine Xg.at_skip ?_
    refine Xg.at_seq ?_
    refine Xg.at_region ?_
    refine Xg.ops_op (by kernel_rfl) (Xg.opx_pure ((iv 1)) rfl (fun _ => by kernel_rfl) ?_)
    refine Xg.ops_op (by kernel_rfl) (Xg.opx_pure ((iv 1)) rfl (fun _ => by kernel_rfl) ?_)
    refine Xg.ops_nil ?_
    refine Xg.at_ret_ps (v := (iv 1)) [0] [row p (77 : TypeId) (ppc (Pp.mk (upd σ.regs 4 (σ.regs 4 + (1 : Int))) σ.vram σ.oam (0 : Int) σ.seen σ.rows σ.now σ.now))] Go.Proofs.Try.func38 (fun _ => by kernel_rfl) (by kernel_rfl) (by kernel_rfl) ?_)
  all_goals exact ⟨by first | rfl | (simp [askI, *]; done) | (simp [askI, *]; decide), rfl⟩

end Go.Proofs.Ytkfclamiendamaa
