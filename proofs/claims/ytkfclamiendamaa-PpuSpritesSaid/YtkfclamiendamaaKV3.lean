/- The picture's functions: a new one. -/
import Derived.Test.YtkfclamiendamaaKV2
import Derived.Test.YtkfclamiendamaaKS
namespace Go.Proofs.Ytkfclamiendamaa
open Go.Sl Go.Xg
set_option linter.unusedVariables false
set_option linter.unusedSimpArgs false
set_option maxHeartbeats 4000000
set_option maxRecDepth 100000
theorem zero_ppu : IsZero Try.prog 77 (ppc zeroP) := by
  have hc := zero_cells
  refine ⟨.agg Try.zeroCells77, 54447, _, ⟨Try.t77, Try.type77, rfl, rfl, rfl, ?_⟩, ?_⟩
  · show Try.zeroCells77.size = 54447
    rw [← Array.length_toList, hc, ppc_eq]
    unfold ppc0
    simp [seg_len]
  · rw [← hc]
    rfl

theorem zero_ppa : IsZeroA Try.prog 77 (ppc zeroP) := by
  have hc := zero_cells
  refine ⟨54447, _, ⟨Try.t77, Try.type77, ?_, rfl, rfl, ?_⟩, _, #[(0, 12), (12, 8192), (8204, 160), (8364, 1), (8365, 1), (8366, 1), (8367, 23040), (31407, 23040)], Try.underlying77, fun w => by kernel_rfl⟩
  · rw [← hc]; rfl
  · show (ppc zeroP).toArray.size = 54447
    rw [ppc_eq]
    unfold ppc0
    simp [seg_len]


def newP : Pp := { zeroP with regs := upd (upd (upd (upd (fun _ => 0) 0 145) 7 252) 8 255) 9 255 }

theorem new_d : Does Try.prog 21 [] [] (RetE (fun _ : Nat => True) (fun p => pt p) (fun p => [PpR p newP])) := by
  (focus
    refine Xg.spec_of Go.Proofs.Try.func21 rfl Go.Proofs.Try.ntmps21 fun g F => ?_)
  (focus
    refine Xg.at_seq ?_
    refine Xg.at_region ?_
    refine Xg.ops_op (by kernel_rfl) (Xg.opx_pure ((Value.pointer none)) rfl (fun _ => by kernel_rfl) ?_)
    refine Xg.ops_nil ?_
    refine Xg.at_seq ?_
    refine Xg.at_region ?_
    refine Xg.ops_op (by kernel_rfl) (Xg.opx_run (.agg (List.toArray (ppc zeroP))) rfl (Xg.run_build0 (@Go.Proofs.Ytkfclamiendamaa.zero_ppa )) ?_)
    refine Xg.ops_op (by kernel_rfl) (Xg.opx_box (v := (Value.agg (ppc zeroP).toArray)) (ppc zeroP) (by kernel_rfl) (by kernel_rfl) fun xb1 => ?_)
    refine Xg.ops_op (by kernel_rfl) (Xg.opx_pure ((pv xb1 0)) rfl (fun _ => by kernel_rfl) ?_)
    refine Xg.ops_nil ?_
    refine Xg.at_seq ?_
    refine Xg.at_draw [7, 11, 15, 19] [] (by kernel_rfl) ?_
    refine Xg.any_pure ((pv xb1 0)) 0 (by kernel_rfl) rfl (by kernel_rfl) (by kernel_rfl) (by kernel_rfl) (by kernel_rfl) rfl (fun _ => by kernel_rfl) ?_
    refine Xg.any_pure ((pv xb1 0)) 1 (by kernel_rfl) rfl (by kernel_rfl) (by kernel_rfl) (by kernel_rfl) (by kernel_rfl) rfl (fun _ => by kernel_rfl) ?_
    refine Xg.any_pure ((pv xb1 0)) 2 (by kernel_rfl) rfl (by kernel_rfl) (by kernel_rfl) (by kernel_rfl) (by kernel_rfl) rfl (fun _ => by kernel_rfl) ?_
    refine Xg.any_pure ((pv xb1 0)) 3 (by kernel_rfl) rfl (by kernel_rfl) (by kernel_rfl) (by kernel_rfl) (by kernel_rfl) rfl (fun _ => by kernel_rfl) ?_
    refine Xg.any_pure ((pv xb1 0)) 4 (by kernel_rfl) rfl (by kernel_rfl) (by kernel_rfl) (by kernel_rfl) (by kernel_rfl) rfl (fun _ => by kernel_rfl) ?_
    refine Xg.any_pure ((pv xb1 0)) 5 (by kernel_rfl) rfl (by kernel_rfl) (by kernel_rfl) (by kernel_rfl) (by kernel_rfl) rfl (fun _ => by kernel_rfl) ?_
    refine Xg.any_pure (pv xb1 0) 6 (by kernel_rfl) rfl (by kernel_rfl) (by kernel_rfl) (by kernel_rfl) (by kernel_rfl) rfl (fun _ => by kernel_rfl) ?_
    refine Xg.any_pure ((pv xb1 0)) 8 (by kernel_rfl) rfl (by kernel_rfl) (by kernel_rfl) (by kernel_rfl) (by kernel_rfl) rfl (fun _ => by kernel_rfl) ?_
    refine Xg.any_pure ((pv xb1 0)) 9 (by kernel_rfl) rfl (by kernel_rfl) (by kernel_rfl) (by kernel_rfl) (by kernel_rfl) rfl (fun _ => by kernel_rfl) ?_
    refine Xg.any_pure ((pv xb1 0)) 12 (by kernel_rfl) rfl (by kernel_rfl) (by kernel_rfl) (by kernel_rfl) (by kernel_rfl) rfl (fun _ => by kernel_rfl) ?_
    refine Xg.any_pure ((pv xb1 0)) 13 (by kernel_rfl) rfl (by kernel_rfl) (by kernel_rfl) (by kernel_rfl) (by kernel_rfl) rfl (fun _ => by kernel_rfl) ?_
    refine Xg.any_pure ((pv xb1 0)) 16 (by kernel_rfl) rfl (by kernel_rfl) (by kernel_rfl) (by kernel_rfl) (by kernel_rfl) rfl (fun _ => by kernel_rfl) ?_
    refine Xg.any_pure ((pv xb1 0)) 17 (by kernel_rfl) rfl (by kernel_rfl) (by kernel_rfl) (by kernel_rfl) (by kernel_rfl) rfl (fun _ => by kernel_rfl) ?_
    refine Xg.any_each [7] (by kernel_rfl) rfl ⟨?_, trivial⟩
    refine Xg.comes_act rfl (by kernel_rfl) (by kernel_rfl) (Xg.opx_store_c (off := ((0 : Nat))) (cs' := (ppc (Pp.mk (upd zeroP.regs 0 (145 : Int)) zeroP.vram zeroP.oam zeroP.clock zeroP.seen zeroP.rows zeroP.now zeroP.last))) 0 (iv 145) (by kernel_rfl) rfl (by kernel_rfl) (by kernel_rfl) (by kernel_rfl) (@Go.Proofs.Ytkfclamiendamaa.s_regs (zeroP) (((0 : Nat))) (((145 : Int))) (by omega)) ?_)
    refine Xg.acts Xg.owes_nil ?_
    refine Xg.any_pure (pv xb1 7) 10 (by kernel_rfl) rfl (by kernel_rfl) (by kernel_rfl) (by kernel_rfl) (by kernel_rfl) rfl (fun _ => by kernel_rfl) ?_
    refine Xg.any_each [11] (by kernel_rfl) rfl ⟨?_, trivial⟩
    refine Xg.comes_act rfl (by kernel_rfl) (by kernel_rfl) (Xg.opx_store_c (off := ((7 : Nat))) (cs' := (ppc (Pp.mk (upd (upd zeroP.regs 0 (145 : Int)) (7 : Nat) (252 : Int)) zeroP.vram zeroP.oam zeroP.clock zeroP.seen zeroP.rows zeroP.now zeroP.last))) 0 (iv 252) (by kernel_rfl) rfl (by kernel_rfl) (by kernel_rfl) (by kernel_rfl) (@Go.Proofs.Ytkfclamiendamaa.s_regs ((Pp.mk (upd zeroP.regs 0 (145 : Int)) zeroP.vram zeroP.oam zeroP.clock zeroP.seen zeroP.rows zeroP.now zeroP.last)) (((7 : Nat))) (((252 : Int))) (by omega)) ?_)
    refine Xg.acts Xg.owes_nil ?_
    refine Xg.any_pure (pv xb1 8) 14 (by kernel_rfl) rfl (by kernel_rfl) (by kernel_rfl) (by kernel_rfl) (by kernel_rfl) rfl (fun _ => by kernel_rfl) ?_
    refine Xg.any_each [15] (by kernel_rfl) rfl ⟨?_, trivial⟩
    refine Xg.comes_act rfl (by kernel_rfl) (by kernel_rfl) (Xg.opx_store_c (off := ((8 : Nat))) (cs' := (ppc (Pp.mk (upd (upd (upd zeroP.regs 0 (145 : Int)) (7 : Nat) (252 : Int)) (8 : Nat) (255 : Int)) zeroP.vram zeroP.oam zeroP.clock zeroP.seen zeroP.rows zeroP.now zeroP.last))) 0 (iv 255) (by kernel_rfl) rfl (by kernel_rfl) (by kernel_rfl) (by kernel_rfl) (@Go.Proofs.Ytkfclamiendamaa.s_regs ((Pp.mk (upd (upd zeroP.regs 0 (145 : Int)) (7 : Nat) (252 : Int)) zeroP.vram zeroP.oam zeroP.clock zeroP.seen zeroP.rows zeroP.now zeroP.last)) (((8 : Nat))) (((255 : Int))) (by omega)) ?_)
    refine Xg.acts Xg.owes_nil ?_
    refine Xg.any_pure (pv xb1 9) 18 (by kernel_rfl) rfl (by kernel_rfl) (by kernel_rfl) (by kernel_rfl) (by kernel_rfl) rfl (fun _ => by kernel_rfl) ?_
    refine Xg.any_each [19] (by kernel_rfl) rfl ⟨?_, trivial⟩
    refine Xg.comes_act rfl (by kernel_rfl) (by kernel_rfl) (Xg.opx_store_c (off := ((9 : Nat))) (cs' := (ppc (Pp.mk (upd (upd (upd (upd zeroP.regs 0 (145 : Int)) (7 : Nat) (252 : Int)) (8 : Nat) (255 : Int)) (9 : Nat) (255 : Int)) zeroP.vram zeroP.oam zeroP.clock zeroP.seen zeroP.rows zeroP.now zeroP.last))) 0 (iv 255) (by kernel_rfl) rfl (by kernel_rfl) (by kernel_rfl) (by kernel_rfl) (@Go.Proofs.Ytkfclamiendamaa.s_regs ((Pp.mk (upd (upd (upd zeroP.regs 0 (145 : Int)) (7 : Nat) (252 : Int)) (8 : Nat) (255 : Int)) zeroP.vram zeroP.oam zeroP.clock zeroP.seen zeroP.rows zeroP.now zeroP.last)) (((9 : Nat))) (((255 : Int))) (by omega)) ?_)
    refine Xg.acts Xg.owes_nil ?_
    refine Xg.any_nil (by kernel_rfl) ?_
    refine Xg.at_seq ?_
    refine Xg.at_region ?_
    refine Xg.ops_op (by kernel_rfl) (Xg.opx_pure ((pv xb1 0)) rfl (fun _ => by kernel_rfl) ?_)
    refine Xg.ops_op (by kernel_rfl) (Xg.opx_pure ((pv xb1 0)) rfl (fun _ => by kernel_rfl) ?_)
    refine Xg.ops_nil ?_
    refine Xg.at_ret_ps (v := (pv xb1 0)) [0] [row xb1 (77 : Nat) (ppc (Pp.mk (upd (upd (upd (upd zeroP.regs 0 (145 : Int)) (7 : Nat) (252 : Int)) (8 : Nat) (255 : Int)) (9 : Nat) (255 : Int)) zeroP.vram zeroP.oam zeroP.clock zeroP.seen zeroP.rows zeroP.now zeroP.last))] Go.Proofs.Try.func21 (fun _ => by kernel_rfl) (by kernel_rfl) (by kernel_rfl) ?_
    refine ⟨xb1, trivial, by kernel_rfl, by kernel_rfl⟩)

end Go.Proofs.Ytkfclamiendamaa
