/- The picture's functions while it is off; registers. -/
import Derived.Test.YtkfclamiendamaaKV3
import Derived.Test.YtkfclamiendamaaKS
namespace Go.Proofs.Ytkfclamiendamaa
open Go.Sl Go.Xg
set_option linter.unusedVariables false
set_option linter.unusedSimpArgs false
set_option maxHeartbeats 4000000
set_option maxRecDepth 100000

def i64ok (x : Int) : Prop := -9223372036854775808 ≤ x ∧ x ≤ 9223372036854775807
def pickN (c : Int) (n : Nat) : Nat := ((if c < 0 then -(c + 1) else c) % (n : Int)).toNat
theorem pickN_lt (c : Int) (n : Nat) (h : 0 < n) : pickN c n < n := by
  unfold pickN
  have h1 := Int.emod_lt_of_pos (if c < 0 then -(c + 1) else c) (b := (n : Int)) (by omega)
  have h2 := Int.emod_nonneg (if c < 0 then -(c + 1) else c) (b := (n : Int)) (by omega)
  omega
theorem pickN_eq (c : Int) (n : Nat) (h : 0 < n) : ((pickN c n : Nat) : Int) = (if c < 0 then -(c + 1) else c) % (n : Int) := by
  unfold pickN
  have h2 := Int.emod_nonneg (if c < 0 then -(c + 1) else c) (b := (n : Int)) (by omega)
  omega
theorem pick_d (c : Int) (n : Nat) (hc : i64ok c) (hn : 0 < n) : Does Try.prog 23 [.int .i64 c, .int .i64 (n : Nat)] []
    (RetE (fun x : Nat => x = pickN c n ∧ x < n) (fun x => .int .i64 (x : Nat)) (fun _ => [])) := by
  refine Does.mono (post := Ret (.int .i64 ((if c < 0 then -(c + 1) else c) % (n : Int))) []) ?_ fun v ps ⟨e1, e2⟩ => ⟨pickN c n, ⟨rfl, pickN_lt c n hn⟩, by rw [e1, ← pickN_eq c n hn], e2⟩
  obtain ⟨h1, h2⟩ := hc
  (focus
    refine Xg.spec_of Go.Proofs.Try.func23 rfl Go.Proofs.Try.ntmps23 fun g F => ?_)
  (focus
    refine Xg.at_seq ?_
    refine Xg.at_region ?_
    refine Xg.ops_op (by kernel_rfl) (Xg.opx_pure ((iv 0)) rfl (fun _ => by kernel_rfl) ?_)
    refine Xg.ops_nil ?_
    refine Xg.at_seq ?_
    refine Xg.at_seq ?_
    refine Xg.at_region ?_
    refine Xg.ops_op (by kernel_rfl) (Xg.opx_pure ((iv c)) rfl (fun _ => by kernel_rfl) ?_)
    refine Xg.ops_op (by kernel_rfl) (Xg.opx_pure (.bool (decide ((c : Int) < ((0 : Int))))) rfl (fun _ => by kernel_rfl) ?_)
    refine Xg.ops_nil ?_
    refine Xg.at_dec (p := (c < (0 : Int))) (by kernel_rfl) (fun xh1 => ?_) (fun xh1 => ?_)
    refine Xg.at_region ?_
    refine Xg.ops_op (by kernel_rfl) (Xg.opx_pure ((iv c)) rfl (fun _ => by kernel_rfl) ?_)
    refine Xg.ops_op (by kernel_rfl) (Xg.opx_int .i64 (IntKind.wrap .i64 ((c + (1 : Int)))) rfl (fun _ => by kernel_rfl) (Xg.wrap_i64_in (by omega)) ?_)
    refine Xg.ops_op (by kernel_rfl) (Xg.opx_int .i64 (IntKind.wrap .i64 (((0 : Int) - (c + (1 : Int))))) rfl (fun _ => by kernel_rfl) (Xg.wrap_i64_in (by omega)) ?_)
    refine Xg.ops_op (by kernel_rfl) (Xg.opx_pure ((iv ((0 : Int) - (c + (1 : Int))))) rfl (fun _ => by kernel_rfl) ?_)
    refine Xg.ops_nil ?_
    refine Xg.at_seq ?_
    refine Xg.at_region ?_
    refine Xg.ops_op (by kernel_rfl) (Xg.opx_pure ((iv ((0 : Int) - (c + (1 : Int))))) rfl (fun _ => by kernel_rfl) ?_)
    refine Xg.ops_op (by kernel_rfl) (Xg.opx_pure ((iv (↑n : Int))) rfl (fun _ => by kernel_rfl) ?_)
    refine Xg.ops_op (by kernel_rfl) (Xg.opx_run (.int .i64 (((0 : Int) - (c + (1 : Int))) % ((↑n : Int)))) rfl (fun _ => Xg.run_rem (k1 := .i64) (m := ((0 : Int) - (c + (1 : Int)))) (e := ((↑n : Int))) (by kernel_rfl) (by kernel_rfl) (by omega) (by omega)) ?_)
    refine Xg.ops_op (by kernel_rfl) (Xg.opx_pure ((iv (((0 : Int) - (c + (1 : Int))) % (↑n : Int)))) rfl (fun _ => by kernel_rfl) ?_)
    refine Xg.ops_nil ?_
    refine Xg.at_ret_ps (v := (iv (((0 : Int) - (c + (1 : Int))) % (↑n : Int)))) [] [] Go.Proofs.Try.func23 (fun _ => by kernel_rfl) (by kernel_rfl) (by kernel_rfl) ?_
    rotate_left
    refine Xg.at_skip ?_
    refine Xg.at_seq ?_
    refine Xg.at_region ?_
    refine Xg.ops_op (by kernel_rfl) (Xg.opx_pure ((iv c)) rfl (fun _ => by kernel_rfl) ?_)
    refine Xg.ops_op (by kernel_rfl) (Xg.opx_pure ((iv (↑n : Int))) rfl (fun _ => by kernel_rfl) ?_)
    refine Xg.ops_op (by kernel_rfl) (Xg.opx_run (.int .i64 (c % ((↑n : Int)))) rfl (fun _ => Xg.run_rem (k1 := .i64) (m := c) (e := ((↑n : Int))) (by kernel_rfl) (by kernel_rfl) (by omega) (by omega)) ?_)
    refine Xg.ops_op (by kernel_rfl) (Xg.opx_pure ((iv (c % (↑n : Int)))) rfl (fun _ => by kernel_rfl) ?_)
    refine Xg.ops_nil ?_
    refine Xg.at_ret_ps (v := (iv (c % (↑n : Int)))) [] [] Go.Proofs.Try.func23 (fun _ => by kernel_rfl) (by kernel_rfl) (by kernel_rfl) ?_)
  all_goals exact ⟨by first | (rw [if_pos (by omega), Int.zero_sub]; done) | (rw [if_neg (by omega)]; done), rfl⟩

theorem mode_off {σ : Pp} (h : hasB (σ.regs 0) 7 = false) : modeI σ = 0 := by unfold modeI; rw [h]; rfl
theorem upd_bd {f : Nat → Int} {lo hi : Int} (h : ∀ i, lo ≤ f i ∧ f i ≤ hi) (i : Nat) {v : Int} (hv : lo ≤ v ∧ v ≤ hi) : ∀ j, lo ≤ upd f i v j ∧ upd f i v j ≤ hi := fun j => by
  unfold upd; split
  · exact hv
  · exact h j

theorem wf_vram {σ : Pp} (h : σ.Wf) (i : Nat) {v : Int} (hv : 0 ≤ v ∧ v ≤ 255) : ({ σ with vram := upd σ.vram i v } : Pp).Wf := ⟨h.regs, upd_bd h.vram i hv, h.oam, h.clock, h.ly, h.rows, h.now, h.last⟩
theorem wf_oam {σ : Pp} (h : σ.Wf) (i : Nat) {v : Int} (hv : 0 ≤ v ∧ v ≤ 255) : ({ σ with oam := upd σ.oam i v } : Pp).Wf := ⟨h.regs, h.vram, upd_bd h.oam i hv, h.clock, h.ly, h.rows, h.now, h.last⟩
theorem wf_regs {σ : Pp} (h : σ.Wf) (i : Nat) (hi : i ≠ 4) {v : Int} (hv : 0 ≤ v ∧ v ≤ 255) : ({ σ with regs := upd σ.regs i v } : Pp).Wf :=
  ⟨upd_bd h.regs i hv, h.vram, h.oam, h.clock, by show upd σ.regs i v 4 ≤ 153; rw [upd_ne (Ne.symm hi)]; exact h.ly, h.rows, h.now, h.last⟩

/-- A byte of VRAM is written while the picture is off. -/
theorem write_v (p : Nat) (σ : Pp) (hσ : σ.Wf) (hoff : hasB (σ.regs 0) 7 = false) (k d : Int) (hk : 0 ≤ k ∧ k < 8192) (hd : 0 ≤ d ∧ d ≤ 255) : Does Try.prog 22 [pt p, .int .i64 (32768 + k), .int .i64 d] [PpR p σ]
    (RetE (fun x : Pp => x = { σ with vram := upd σ.vram k.toNat d } ∧ x.Wf ∧ x.regs = σ.regs) (fun _ => .tuple #[]) (fun x => [PpR p x])) := by
  refine (write_d p σ hσ (32768 + k) d (by omega)).mono fun _ _ ⟨e1, e2⟩ => ⟨{ σ with vram := upd σ.vram k.toNat d }, ⟨rfl, wf_vram hσ _ hd, rfl⟩, e1, ?_⟩
  rw [e2]
  unfold writeP
  rw [if_pos (by omega), if_neg (by rw [mode_off hoff]; omega), show 32768 + k - 32768 = k from by omega, show d % 256 = d from by omega]
theorem write_o (p : Nat) (σ : Pp) (hσ : σ.Wf) (hoff : hasB (σ.regs 0) 7 = false) (k d : Int) (hk : 0 ≤ k ∧ k < 160) (hd : 0 ≤ d ∧ d ≤ 255) : Does Try.prog 22 [pt p, .int .i64 (65024 + k), .int .i64 d] [PpR p σ]
    (RetE (fun x : Pp => x = { σ with oam := upd σ.oam k.toNat d } ∧ x.Wf ∧ x.regs = σ.regs) (fun _ => .tuple #[]) (fun x => [PpR p x])) := by
  refine (write_d p σ hσ (65024 + k) d (by omega)).mono fun _ _ ⟨e1, e2⟩ => ⟨{ σ with oam := upd σ.oam k.toNat d }, ⟨rfl, wf_oam hσ _ hd, rfl⟩, e1, ?_⟩
  rw [e2]
  unfold writeP
  rw [if_neg (by omega), if_pos (by omega), if_neg (by rw [mode_off hoff]; omega), show 65024 + k - 65024 = k from by omega, show d % 256 = d from by omega]
theorem write_oa (p : Nat) (σ : Pp) (hσ : σ.Wf) (hoff : hasB (σ.regs 0) 7 = false) (a d : Int) (ha : 65024 ≤ a ∧ a < 65184) (hd : 0 ≤ d ∧ d ≤ 255) : Does Try.prog 22 [pt p, .int .i64 a, .int .i64 d] [PpR p σ]
    (RetE (fun x : Pp => x = { σ with oam := upd σ.oam (a - 65024).toNat d } ∧ x.Wf ∧ x.regs = σ.regs) (fun _ => .tuple #[]) (fun x => [PpR p x])) := by
  have := write_o p σ hσ hoff (a - 65024) d (by omega) hd
  rwa [show 65024 + (a - 65024) = a from by omega] at this
theorem read_ly (p : Nat) (σ : Pp) (hσ : σ.Wf) : Does Try.prog 24 [pt p, .int .i64 65348] [PpR p σ] (Ret (.int .i64 (σ.regs 4)) [PpR p σ]) := by
  have := read_d p σ hσ 65348 (by omega)
  unfold readI at this
  rwa [if_neg (by omega), if_neg (by omega), if_neg (by omega), if_neg (by omega)] at this
theorem read_v (p : Nat) (σ : Pp) (hσ : σ.Wf) (hoff : hasB (σ.regs 0) 7 = false) (k : Int) (hk : 0 ≤ k ∧ k < 8192) : Does Try.prog 24 [pt p, .int .i64 (32768 + k)] [PpR p σ] (Ret (.int .i64 (σ.vram k.toNat)) [PpR p σ]) := by
  have := read_d p σ hσ (32768 + k) (by omega)
  unfold readI at this
  rwa [if_pos (by omega), if_neg (by rw [mode_off hoff]; omega), show 32768 + k - 32768 = k from by omega] at this
theorem read_o (p : Nat) (σ : Pp) (hσ : σ.Wf) (hoff : hasB (σ.regs 0) 7 = false) (k : Int) (hk : 0 ≤ k ∧ k < 160) : Does Try.prog 24 [pt p, .int .i64 (65024 + k)] [PpR p σ] (Ret (.int .i64 (σ.oam k.toNat)) [PpR p σ]) := by
  have := read_d p σ hσ (65024 + k) (by omega)
  unfold readI at this
  rwa [if_neg (by omega), if_pos (by omega), if_neg (by rw [mode_off hoff]; omega), show 65024 + k - 65024 = k from by omega] at this
theorem mem_v (p : Nat) (σ : Pp) (hσ : σ.Wf) (k : Int) (hk : 0 ≤ k ∧ k < 8192) : Does Try.prog 25 [pt p, .int .i64 (32768 + k)] [PpR p σ] (Ret (.int .i64 (σ.vram k.toNat)) [PpR p σ]) := by
  have := memory_d p σ hσ (32768 + k) (by omega)
  rwa [if_pos (by omega), show 32768 + k - 32768 = k from by omega] at this
theorem mem_o (p : Nat) (σ : Pp) (hσ : σ.Wf) (k : Int) (hk : 0 ≤ k ∧ k < 160) : Does Try.prog 25 [pt p, .int .i64 (65024 + k)] [PpR p σ] (Ret (.int .i64 (σ.oam k.toNat)) [PpR p σ]) := by
  have := memory_d p σ hσ (65024 + k) (by omega)
  rwa [if_neg (by omega), if_pos (by omega), show 65024 + k - 65024 = k from by omega] at this

/-- A register that is plain. -/
theorem write_r (p : Nat) (σ : Pp) (hσ : σ.Wf) (r d : Int) (hr : 65346 ≤ r ∧ r ≤ 65355 ∧ r ≠ 65348 ∧ r ≠ 65350) (hd : i64ok d) : Does Try.prog 22 [pt p, .int .i64 r, .int .i64 d] [PpR p σ]
    (RetE (fun x : Pp => x = { σ with regs := upd σ.regs (r - 65344).toNat (d % 256) } ∧ x.Wf) (fun _ => .tuple #[]) (fun x => [PpR p x])) := by
  refine (write_d p σ hσ r d (by omega)).mono fun _ _ ⟨e1, e2⟩ => ⟨{ σ with regs := upd σ.regs (r - 65344).toNat (d % 256) }, ⟨rfl, wf_regs hσ _ (by omega) (by omega)⟩, e1, ?_⟩
  rw [e2]
  unfold writeP setP
  rw [if_neg (by omega), if_neg (by omega), if_neg (by omega), if_neg (by omega), if_neg (by omega), if_neg (by omega)]
theorem read_r (p : Nat) (σ : Pp) (hσ : σ.Wf) (r : Int) (hr : 65346 ≤ r ∧ r ≤ 65355 ∧ r ≠ 65350) : Does Try.prog 24 [pt p, .int .i64 r] [PpR p σ] (Ret (.int .i64 (σ.regs (r - 65344).toNat)) [PpR p σ]) := by
  have := read_d p σ hσ r (by omega)
  unfold readI at this
  rwa [if_neg (by omega), if_neg (by omega), if_neg (by omega), if_neg (by omega)] at this
theorem read_x (p : Nat) (σ : Pp) (hσ : σ.Wf) (r : Int) (hr : r = 65350 ∨ r = 65184 ∨ r = 40960) : Does Try.prog 24 [pt p, .int .i64 r] [PpR p σ] (Ret (.int .i64 255) [PpR p σ]) := by
  have := read_d p σ hσ r (by omega)
  unfold readI at this
  rwa [if_neg (by omega), if_neg (by omega), if_pos (by omega)] at this
theorem mem_x (p : Nat) (σ : Pp) (hσ : σ.Wf) : Does Try.prog 25 [pt p, .int .i64 65344] [PpR p σ] (Ret (.int .i64 255) [PpR p σ]) := by
  have := memory_d p σ hσ 65344 (by omega)
  rwa [if_neg (by omega), if_neg (by omega)] at this
theorem write_ly (p : Nat) (σ : Pp) (hσ : σ.Wf) (d : Int) (hd : i64ok d) : Does Try.prog 22 [pt p, .int .i64 65348, .int .i64 d] [PpR p σ] (Ret (.tuple #[]) [PpR p σ]) := by
  have := write_d p σ hσ 65348 d (by omega)
  unfold writeP setP at this
  rwa [if_neg (by omega), if_neg (by omega), if_neg (by omega), if_pos (by omega)] at this

theorem wf_zero : zeroP.Wf := ⟨fun _ => ⟨Int.le_refl 0, by show (0 : Int) ≤ 255; omega⟩, fun _ => ⟨Int.le_refl 0, by show (0 : Int) ≤ 255; omega⟩, fun _ => ⟨Int.le_refl 0, by show (0 : Int) ≤ 255; omega⟩, ⟨Int.le_refl 0, by show (0 : Int) ≤ 452; omega⟩, by show (0 : Int) ≤ 153; omega, ⟨Int.le_refl 0, by show (0 : Int) ≤ 144; omega⟩, fun _ => ⟨Int.le_refl 0, by show (0 : Int) ≤ 3; omega⟩, fun _ => ⟨Int.le_refl 0, by show (0 : Int) ≤ 3; omega⟩⟩

theorem wf_new : newP.Wf := by
  refine ⟨?_, wf_zero.vram, wf_zero.oam, wf_zero.clock, by show (0 : Int) ≤ 153; omega, wf_zero.rows, wf_zero.now, wf_zero.last⟩
  exact upd_bd (upd_bd (upd_bd (upd_bd (fun _ => by omega) 0 (by omega)) 7 (by omega)) 8 (by omega)) 9 (by omega)

/-- A new one, turned off. -/
def offP : Pp := { newP with regs := upd (upd newP.regs 0 0) 4 0 }
theorem wf_off : offP.Wf := by
  refine ⟨upd_bd (upd_bd wf_new.regs 0 (by omega)) 4 (by omega), wf_new.vram, wf_new.oam, wf_new.clock, by show (0 : Int) ≤ 153; omega, wf_new.rows, wf_new.now, wf_new.last⟩
theorem write_off (p : Nat) : Does Try.prog 22 [pt p, .int .i64 65344, .int .i64 0] [PpR p newP] (Ret (.tuple #[]) [PpR p offP]) := by
  refine (write_d p newP wf_new 65344 0 (by omega)).mono fun _ _ ⟨e1, e2⟩ => ⟨e1, ?_⟩
  rw [e2]
  rfl

end Go.Proofs.Ytkfclamiendamaa
