/- The law PpuLocked: what it does. -/
import Derived.Test.YtkfclamiendamaaKV19
import Derived.Test.YtkfclamiendamaaKS
import Derived.Test.YtkfclamiendamaaKV21
namespace Go.Proofs.Ytkfclamiendamaa
open Go.Sl Go.Xg
set_option linter.unusedVariables false
set_option linter.unusedSimpArgs false
set_option maxHeartbeats 4000000
set_option maxRecDepth 100000

structure Lk (a k : Nat) (σ : Pp) : Prop where
  ok : σ.Ok
  r0 : σ.regs 0 = 128
  r1 : σ.regs 1 = 0
  va : σ.vram a = 17
  ok2 : σ.oam k = 34
theorem lk_next {a k : Nat} {σ : Pp} (h : Lk a k σ) : Lk a k (tickP σ) := by
  have hon : hasB (σ.regs 0) 7 = true := by rw [h.r0]; decide
  refine ⟨ok_tick h.ok, ?_, ?_, ?_, ?_⟩ <;> rw [tick_on hon]
  · rw [next_regs σ _ (by omega)]; exact h.r0
  · rw [next_regs σ _ (by omega)]; exact h.r1
  · rw [next_vram]; exact h.va
  · rw [next_oam]; exact h.ok2
theorem lk_stat {a k : Nat} {σ : Pp} (h : Lk a k σ) : band .i64 (readI σ 65345) 3 = modeI σ := by
  have hb := modeI_bd σ
  unfold readI
  rw [if_neg (by omega), if_neg (by omega), if_neg (by omega), if_pos rfl, h.r1]
  rcases (by omega : modeI σ = 0 ∨ modeI σ = 1 ∨ modeI σ = 2 ∨ modeI σ = 3) with e | e | e | e <;> rw [e] <;> split <;> decide
/-- One that is off, with two bytes, is turned on. -/
theorem lk_new (a k : Nat) (ha : a < 8192) (hk : k < 160) : Lk a k (writeP (writeP (writeP offP (32768 + (a : Int)) 17) (65024 + (k : Int)) 34) 65344 128) := by
  have o0 : offP.Ok := ⟨wf_off, rfl, fun _ => by show (0:Int) ≤ (0:Int) + 1 ∧ ((0:Int) < 252 → (0:Int) ≤ 0); omega⟩
  have h0 : modeI offP = 0 := mode_off (by decide)
  have e1 : writeP offP (32768 + (a : Int)) 17 = { offP with vram := upd offP.vram a 17 } := by
    unfold writeP
    rw [if_pos (by omega), if_neg (by rw [h0]; omega), show (32768 + (a : Int) - 32768).toNat = a from by omega]
    rfl
  have m1 : modeI { offP with vram := upd offP.vram a 17 } = 0 := h0
  have e2 : writeP { offP with vram := upd offP.vram a 17 } (65024 + (k : Int)) 34 = { offP with vram := upd offP.vram a 17, oam := upd offP.oam k 34 } := by
    unfold writeP
    rw [if_neg (by omega), if_pos (by omega), if_neg (by rw [m1]; omega), show (65024 + (k : Int) - 65024).toNat = k from by omega]
    rfl
  refine ⟨ok_write (ok_write (ok_write o0 _ _) _ _) _ _, ?_, ?_, ?_, ?_⟩ <;> rw [e1, e2] <;> unfold writeP setP <;> rw [if_neg (by omega), if_neg (by omega), if_neg (by omega), if_neg (by omega), if_neg (by omega), if_pos (by omega), if_neg (by show ¬ hasB (offP.regs 0) 7 = hasB (128 % 256) 7; decide), if_neg (by show ¬ hasB (offP.regs 0) 7 = true; decide)]
  · rfl
  · rfl
  · exact upd_same _ _ _
  · exact upd_same _ _ _

theorem wrap_u8 (v : Int) : IntKind.wrap .u8 v = v % 256 := by
  simp only [IntKind.wrap, IntKind.bits, IntKind.signed]
  simp

/-- Two bytes are written, whatever the mode. -/
theorem lk_write {a k : Nat} {σ : Pp} (ha : a < 8192) (hk : k < 160) (h : Lk a k σ) (v : Int) :
    (writeP σ (32768 + (a : Int)) v).Ok ∧ (writeP (writeP σ (32768 + (a : Int)) v) (65024 + (k : Int)) v).Ok ∧
    (writeP (writeP σ (32768 + (a : Int)) v) (65024 + (k : Int)) v).vram a = (if modeI σ = 3 then 17 else v % 256) ∧
    (writeP (writeP σ (32768 + (a : Int)) v) (65024 + (k : Int)) v).oam k = (if modeI σ ≥ 2 then 34 else v % 256) := by
  have e1 : writeP σ (32768 + (a : Int)) v = (if modeI σ = 3 then σ else { σ with vram := upd σ.vram a (v % 256) }) := by
    unfold writeP
    rw [if_pos (by omega), show (32768 + (a : Int) - 32768).toNat = a from by omega]
  obtain ⟨τ, hτ⟩ : ∃ τ, writeP σ (32768 + (a : Int)) v = τ := ⟨_, rfl⟩
  have hm : modeI τ = modeI σ := by rw [← hτ, e1]; split <;> rfl
  have hv : τ.vram a = (if modeI σ = 3 then 17 else v % 256) := by
    rw [← hτ, e1]; split
    · exact h.va
    · exact upd_same _ _ _
  have ho : τ.oam k = 34 := by rw [← hτ, e1]; split <;> exact h.ok2
  have hτo : τ.Ok := hτ ▸ ok_write h.ok _ _
  rw [hτ]
  have e2 : writeP τ (65024 + (k : Int)) v = (if modeI τ ≥ 2 then τ else { τ with oam := upd τ.oam k (v % 256) }) := by
    unfold writeP
    rw [if_neg (by omega), if_pos (by omega), show (65024 + (k : Int) - 65024).toNat = k from by omega]
  refine ⟨hτo, ok_write hτo _ _, ?_, ?_⟩
  · rw [e2]; split <;> exact hv
  · rw [e2, hm]; split
    · exact ho
    · exact upd_same _ _ _

theorem memv_k (p : Nat) (τ : Pp) (hτ : τ.Ok) (a : Nat) (ha : a < 8192) : Does Try.prog 25 [pt p, .int .i64 (32768 + (a : Int))] [PpR p τ] (Ret (.int .i64 (τ.vram a)) [PpR p τ]) := by
  have := mem_v p τ hτ.wf (a : Int) (by omega)
  rwa [show ((a : Int)).toNat = a from by omega] at this
theorem memo_k (p : Nat) (τ : Pp) (hτ : τ.Ok) (a : Nat) (ha : a < 160) : Does Try.prog 25 [pt p, .int .i64 (65024 + (a : Int))] [PpR p τ] (Ret (.int .i64 (τ.oam a)) [PpR p τ]) := by
  have := mem_o p τ hτ.wf (a : Int) (by omega)
  rwa [show ((a : Int)).toNat = a from by omega] at this
theorem dma_k (p : Nat) (τ : Pp) (hτ : τ.Ok) (k : Nat) (hk : k < 160) (d : Int) : Does Try.prog 44 [pt p, .int .i64 (k : Nat), .int .i64 d] [PpR p τ]
    (RetE (fun x : Pp => x.Ok ∧ x.oam k = d % 256 ∧ x.vram = τ.vram) (fun _ => .tuple #[]) (fun x => [PpR p x])) :=
  (dma_d p τ k d).mono fun _ _ ⟨e1, e2⟩ => ⟨{ τ with oam := upd τ.oam k (d % 256) }, ⟨⟨wf_oam hτ.wf _ (by omega), hτ.four, hτ.rowsLy⟩, upd_same _ _ _, rfl⟩, e1, by
    rw [e2, if_pos (by omega), show ((k : Int)).toNat = k from by omega]⟩
theorem dma_x (p : Nat) (τ : Pp) (i d : Int) (hi : i < 0 ∨ 160 ≤ i) : Does Try.prog 44 [pt p, .int .i64 i, .int .i64 d] [PpR p τ] (Ret (.tuple #[]) [PpR p τ]) := by
  have := dma_d p τ i d
  rwa [if_neg (by omega)] at this

set_option maxHeartbeats 0 in
theorem plocked_d (A : HP) (n : Int) (hn : i64ok n) (at0 : Int) (hat : i64ok at0) (v : Int) (hv : i64ok v) : Does Try.prog 16 [.int .i64 n, .int .i64 at0, .int .i64 v] [A] (Ret (.bool true) [A]) := by
  obtain ⟨hv1, hv2⟩ := hv
  have o0 : offP.Ok := ⟨wf_off, rfl, fun _ => by show (0:Int) ≤ (0:Int) + 1 ∧ ((0:Int) < 252 → (0:Int) ≤ 0); omega⟩
  (focus
    refine Xg.spec_of Go.Proofs.Try.func16 rfl Go.Proofs.Try.ntmps16 fun g F => ?_)
  (focus
    refine Xg.at_seq ?_
    refine Xg.at_region ?_
    refine Xg.ops_op (by kernel_rfl) (Xg.opx_pure ((Value.bool false)) rfl (fun _ => by kernel_rfl) ?_)
    refine Xg.ops_nil ?_
    refine Xg.at_seq ?_
    refine Xg.at_region ?_
    refine Xg.ops_op (by kernel_rfl) (Xg.opx_callE' [] (fun xx1 => [PpR xx1 newP, A]) (fun _ => by kernel_rfl) (@Go.Proofs.Ytkfclamiendamaa.new_d ) (by kernel_rfl) (by kernel_rfl) (by kernel_rfl) fun xx1 xh1 => ?_)
    try dsimp only at xh1
    refine Xg.ops_op (by kernel_rfl) (Xg.opx_pure ((pv xx1 0)) rfl (fun _ => by kernel_rfl) ?_)
    refine Xg.ops_nil ?_
    refine Xg.at_seq ?_
    refine Xg.at_seq ?_
    refine Xg.at_region ?_
    refine Xg.ops_op (by kernel_rfl) (Xg.opx_pure ((pv xx1 0)) rfl (fun _ => by kernel_rfl) ?_)
    refine Xg.ops_op (by kernel_rfl) (Xg.opx_pure ((Value.bool false)) rfl (fun _ => by kernel_rfl) ?_)
    refine Xg.ops_nil ?_
    refine Xg.at_false (t := false) (by kernel_rfl) rfl ?_
    refine Xg.at_skip ?_
    refine Xg.at_seq ?_
    refine Xg.at_region ?_
    refine Xg.ops_op (by kernel_rfl) (Xg.opx_pure ((pv xx1 0)) rfl (fun _ => by kernel_rfl) ?_)
    refine Xg.ops_op (by kernel_rfl) (Xg.opx_call1' [0] [PpR xx1 offP, A] (fun _ => by kernel_rfl) (@Go.Proofs.Ytkfclamiendamaa.write_off (xx1)) (by kernel_rfl) (by kernel_rfl) (by kernel_rfl) ?_)
    refine Xg.ops_nil ?_
    refine Xg.at_seq ?_
    refine Xg.at_region ?_
    refine Xg.ops_op (by kernel_rfl) (Xg.opx_pure ((iv at0)) rfl (fun _ => by kernel_rfl) ?_)
    refine Xg.ops_op (by kernel_rfl) (Xg.opx_callE' [] (fun xx2 => [PpR xx1 offP, A]) (fun _ => by kernel_rfl) (@Go.Proofs.Ytkfclamiendamaa.pick_d (at0) ((nat_lit 8192)) (by omega) (by first | rfl | decide | (constructor <;> omega) | (simp; done) | (simp; omega))) (by kernel_rfl) (by kernel_rfl) (by kernel_rfl) fun xx2 xh2 => ?_)
    try dsimp only at xh2
    obtain ⟨xh2_0, xh2_1⟩ := xh2
    refine Xg.ops_op (by kernel_rfl) (Xg.opx_int .i64 (IntKind.wrap .i64 (((32768 : Int) + (↑xx2 : Int)))) rfl (fun _ => by kernel_rfl) (Xg.wrap_i64_in (by omega)) ?_)
    refine Xg.ops_op (by kernel_rfl) (Xg.opx_pure ((iv ((32768 : Int) + (↑xx2 : Int)))) rfl (fun _ => by kernel_rfl) ?_)
    refine Xg.ops_nil ?_
    refine Xg.at_seq ?_
    refine Xg.at_region ?_
    refine Xg.ops_op (by kernel_rfl) (Xg.opx_pure ((iv at0)) rfl (fun _ => by kernel_rfl) ?_)
    refine Xg.ops_op (by kernel_rfl) (Xg.opx_callE' [] (fun xx3 => [PpR xx1 offP, A]) (fun _ => by kernel_rfl) (@Go.Proofs.Ytkfclamiendamaa.pick_d (at0) ((nat_lit 160)) (by omega) (by first | rfl | decide | (constructor <;> omega) | (simp; done) | (simp; omega))) (by kernel_rfl) (by kernel_rfl) (by kernel_rfl) fun xx3 xh3 => ?_)
    try dsimp only at xh3
    obtain ⟨xh3_0, xh3_1⟩ := xh3
    refine Xg.ops_op (by kernel_rfl) (Xg.opx_pure ((iv (↑xx3 : Int))) rfl (fun _ => by kernel_rfl) ?_)
    refine Xg.ops_nil ?_
    refine Xg.at_seq ?_
    refine Xg.at_region ?_
    refine Xg.ops_op (by kernel_rfl) (Xg.opx_pure ((pv xx1 0)) rfl (fun _ => by kernel_rfl) ?_)
    refine Xg.ops_op (by kernel_rfl) (Xg.opx_pure ((iv ((32768 : Int) + (↑xx2 : Int)))) rfl (fun _ => by kernel_rfl) ?_)
    refine Xg.ops_op (by kernel_rfl) (Xg.opx_callE' [0] (fun xx4 => [PpR xx1 xx4, A]) (fun _ => by kernel_rfl) (@Go.Proofs.Ytkfclamiendamaa.write_k (xx1) (offP) (by omega) (((32768 : Int) + (↑xx2 : Int))) (((17 : Int))) (by omega)) (by kernel_rfl) (by kernel_rfl) (by kernel_rfl) fun xx4 xh4 => ?_)
    try dsimp only at xh4
    obtain ⟨xh4_0, xh4_1⟩ := xh4
    refine Xg.ops_nil ?_
    refine Xg.at_seq ?_
    refine Xg.at_region ?_
    refine Xg.ops_op (by kernel_rfl) (Xg.opx_pure ((pv xx1 0)) rfl (fun _ => by kernel_rfl) ?_)
    refine Xg.ops_op (by kernel_rfl) (Xg.opx_pure ((iv (↑xx3 : Int))) rfl (fun _ => by kernel_rfl) ?_)
    refine Xg.ops_op (by kernel_rfl) (Xg.opx_int .i64 (IntKind.wrap .i64 (((65024 : Int) + (↑xx3 : Int)))) rfl (fun _ => by kernel_rfl) (Xg.wrap_i64_in (by omega)) ?_)
    refine Xg.ops_op (by kernel_rfl) (Xg.opx_callE' [0] (fun xx5 => [PpR xx1 xx5, A]) (fun _ => by kernel_rfl) (@Go.Proofs.Ytkfclamiendamaa.write_k (xx1) (xx4) (by omega) (((65024 : Int) + (↑xx3 : Int))) (((34 : Int))) (by omega)) (by kernel_rfl) (by kernel_rfl) (by kernel_rfl) fun xx5 xh5 => ?_)
    try dsimp only at xh5
    obtain ⟨xh5_0, xh5_1⟩ := xh5
    refine Xg.ops_nil ?_
    refine Xg.at_seq ?_
    refine Xg.at_region ?_
    refine Xg.ops_op (by kernel_rfl) (Xg.opx_pure ((pv xx1 0)) rfl (fun _ => by kernel_rfl) ?_)
    refine Xg.ops_op (by kernel_rfl) (Xg.opx_callE' [0] (fun xx6 => [PpR xx1 xx6, A]) (fun _ => by kernel_rfl) (@Go.Proofs.Ytkfclamiendamaa.write_k (xx1) (xx5) (by omega) (((65344 : Int))) (((128 : Int))) (by omega)) (by kernel_rfl) (by kernel_rfl) (by kernel_rfl) fun xx6 xh6 => ?_)
    try dsimp only at xh6
    obtain ⟨xh6_0, xh6_1⟩ := xh6
    refine Xg.ops_nil ?_
    refine Xg.at_seq ?_
    refine Xg.at_seq ?_
    refine Xg.at_region ?_
    refine Xg.ops_op (by kernel_rfl) (Xg.opx_pure ((iv n)) rfl (fun _ => by kernel_rfl) ?_)
    refine Xg.ops_op (by kernel_rfl) (Xg.opx_callE' [] (fun xx7 => [PpR xx1 xx6, A]) (fun _ => by kernel_rfl) (@Go.Proofs.Ytkfclamiendamaa.pick_d (n) ((nat_lit 20000)) (by omega) (by first | rfl | decide | (constructor <;> omega) | (simp; done) | (simp; omega))) (by kernel_rfl) (by kernel_rfl) (by kernel_rfl) fun xx7 xh7 => ?_)
    try dsimp only at xh7
    obtain ⟨xh7_0, xh7_1⟩ := xh7
    refine Xg.ops_op (by kernel_rfl) (Xg.opx_pure ((iv (↑xx7 : Int))) rfl (fun _ => by kernel_rfl) ?_)
    refine Xg.ops_nil ?_
    refine Xg.at_block ?_)
  have t0 : Lk xx2 xx3 xx6 := by
    rw [show xx6 = _ by assumption, show xx5 = _ by assumption, show xx4 = _ by assumption]
    exact lk_new xx2 xx3 (by omega) (by omega)
  (focus
    refine Xg.at_rounds_inv (α := (Int × Pp) × (Nat → Value)) (fun x => ((fun x => 0 ≤ x.1 ∧ x.1 ≤ 20000 ∧ Lk xx2 xx3 x.2) : (Int × Pp) → Prop) x.1) (fun x => ((fun x => x.1.toNat) : (Int × Pp) → Nat) x.1) (fun x => Xg.headT [iv n, iv at0, iv v, tu, tu, tu, Value.bool false, pv xx1 0, iv ((32768 : Int) + (↑xx2 : Int)), iv (↑xx3 : Int), iv (↑xx7 : Int), tu, tu, tu, tu, tu, tu, pv xx1 0, pv xx1 0, Value.bool false, pv xx1 0, tu, iv at0, iv (↑xx2 : Int), iv ((32768 : Int) + (↑xx2 : Int)), iv at0, iv (↑xx3 : Int), pv xx1 0, iv ((32768 : Int) + (↑xx2 : Int)), tu, pv xx1 0, iv (↑xx3 : Int), iv ((65024 : Int) + (↑xx3 : Int)), tu, pv xx1 0, tu, iv n, iv (↑xx7 : Int), tu, tu, tu, tu, tu, tu, tu, tu, tu, tu, tu, tu, tu, tu, tu, tu, tu, tu, tu, tu, tu, tu, tu, tu, tu, tu, tu, tu, tu, tu, tu, tu, tu, tu, tu, tu, tu, tu, tu, tu, tu, tu, tu, tu, tu, tu, tu, tu, tu, tu, tu, tu, tu, tu, tu, tu, tu, tu, tu, tu, tu, tu, tu, tu, tu, tu, tu, tu, tu, tu, tu, tu, tu, tu, tu, tu, tu, tu, tu, tu, tu, tu, tu, tu, tu, tu, tu, tu, tu, tu, tu, tu, tu, tu, tu, tu, tu, tu, tu, tu, tu, tu] [38, 39, 40, 41, 42, 43] (((fun x => [(10, .int .i64 x.1)]) : (Int × Pp) → List (Nat × Go.Value)) x.1) x.2) (fun x => ((fun x => [PpR xx1 x.2, A]) : (Int × Pp) → List Go.Sl.HP) x.1) ((((xx7 : Int), xx6)), fun j => ([iv n, iv at0, iv v, tu, tu, tu, Value.bool false, pv xx1 0, iv ((32768 : Int) + (↑xx2 : Int)), iv (↑xx3 : Int), iv (↑xx7 : Int), tu, tu, tu, tu, tu, tu, pv xx1 0, pv xx1 0, Value.bool false, pv xx1 0, tu, iv at0, iv (↑xx2 : Int), iv ((32768 : Int) + (↑xx2 : Int)), iv at0, iv (↑xx3 : Int), pv xx1 0, iv ((32768 : Int) + (↑xx2 : Int)), tu, pv xx1 0, iv (↑xx3 : Int), iv ((65024 : Int) + (↑xx3 : Int)), tu, pv xx1 0, tu, iv n, iv (↑xx7 : Int), tu, tu, tu, tu, tu, tu, tu, tu, tu, tu, tu, tu, tu, tu, tu, tu, tu, tu, tu, tu, tu, tu, tu, tu, tu, tu, tu, tu, tu, tu, tu, tu, tu, tu, tu, tu, tu, tu, tu, tu, tu, tu, tu, tu, tu, tu, tu, tu, tu, tu, tu, tu, tu, tu, tu, tu, tu, tu, tu, tu, tu, tu, tu, tu, tu, tu, tu, tu, tu, tu, tu, tu, tu, tu, tu, tu, tu, tu, tu, tu, tu, tu, tu, tu, tu, tu, tu, tu, tu, tu, tu, tu, tu, tu, tu, tu, tu, tu, tu, tu, tu, tu] : List Value).getD j undef) (by kernel_rfl) (by kernel_rfl) ?_ ?_)
  · exact ⟨by dsimp only; omega, by dsimp only; omega, t0⟩
  rintro ⟨⟨i, σ⟩, J⟩ ⟨hi, hi2, ht⟩ ih
  dsimp only at hi hi2 ht
  have hok := ht.ok
  (focus
    refine Xg.At.same (T' := [iv n, iv at0, iv v, tu, tu, tu, Value.bool false, pv xx1 0, iv ((32768 : Int) + (↑xx2 : Int)), iv (↑xx3 : Int), iv i, tu, tu, tu, tu, tu, tu, pv xx1 0, pv xx1 0, Value.bool false, pv xx1 0, tu, iv at0, iv (↑xx2 : Int), iv ((32768 : Int) + (↑xx2 : Int)), iv at0, iv (↑xx3 : Int), pv xx1 0, iv ((32768 : Int) + (↑xx2 : Int)), tu, pv xx1 0, iv (↑xx3 : Int), iv ((65024 : Int) + (↑xx3 : Int)), tu, pv xx1 0, tu, iv n, iv (↑xx7 : Int), J 38, J 39, J 40, J 41, J 42, J 43, tu, tu, tu, tu, tu, tu, tu, tu, tu, tu, tu, tu, tu, tu, tu, tu, tu, tu, tu, tu, tu, tu, tu, tu, tu, tu, tu, tu, tu, tu, tu, tu, tu, tu, tu, tu, tu, tu, tu, tu, tu, tu, tu, tu, tu, tu, tu, tu, tu, tu, tu, tu, tu, tu, tu, tu, tu, tu, tu, tu, tu, tu, tu, tu, tu, tu, tu, tu, tu, tu, tu, tu, tu, tu, tu, tu, tu, tu, tu, tu, tu, tu, tu, tu, tu, tu, tu, tu, tu, tu, tu, tu, tu, tu, tu, tu]) (L' := [PpR xx1 ((i, σ), J).fst.snd, A]) (by kernel_rfl) rfl ?_)
  by_cases hlt : 0 < i
  · have hn' := lk_next ht
    have htk : Does Try.prog 38 [pt xx1] [PpR xx1 σ] (RetE (fun x : Pp × Int => x.1 = tickP σ) (fun x => .int .i64 x.2) (fun x => [PpR xx1 x.1])) :=
      (tick_d xx1 σ hok).mono fun _ _ ⟨x, ⟨h1, _⟩, e1, e2⟩ => ⟨x, h1, e1, e2⟩
    (focus
      refine Xg.at_seq ?_
      refine Xg.at_seq ?_
      refine Xg.at_region ?_
      refine Xg.ops_op (by kernel_rfl) (Xg.opx_pure ((iv i)) rfl (fun _ => by kernel_rfl) ?_)
      refine Xg.ops_op (by kernel_rfl) (Xg.opx_pure (.bool (decide ((i : Int) > ((0 : Int))))) rfl (fun _ => by kernel_rfl) ?_)
      refine Xg.ops_nil ?_
      refine Xg.at_true (t := decide ((i > (0 : Int)))) (by kernel_rfl) (decide_eq_true (by omega)) ?_
      refine Xg.at_skip ?_
      refine Xg.at_seq ?_
      refine Xg.at_block ?_
      refine Xg.at_region ?_
      refine Xg.ops_op (by kernel_rfl) (Xg.opx_pure ((pv xx1 0)) rfl (fun _ => by kernel_rfl) ?_)
      refine Xg.ops_op (by kernel_rfl) (Xg.opx_callE' [0] (fun xx8 => [PpR xx1 xx8.fst, A]) (fun _ => by kernel_rfl) (@htk ) (by kernel_rfl) (by kernel_rfl) (by kernel_rfl) fun xx8 xh8 => ?_)
      try dsimp only at xh8
      refine Xg.ops_nil ?_
      refine Xg.at_inBlock ?_
      refine Xg.at_region ?_
      refine Xg.ops_op (by kernel_rfl) (Xg.opx_pure ((iv i)) rfl (fun _ => by kernel_rfl) ?_)
      refine Xg.ops_op (by kernel_rfl) (Xg.opx_int .i64 (IntKind.wrap .i64 ((i - (1 : Int)))) rfl (fun _ => by kernel_rfl) (Xg.wrap_i64_in (by omega)) ?_)
      refine Xg.ops_op (by kernel_rfl) (Xg.opx_pure ((iv (i - (1 : Int)))) rfl (fun _ => by kernel_rfl) ?_)
      refine Xg.ops_nil ?_
      refine Xg.at_inLoop ?_)
    (focus
      refine Xg.at_keep [0, 1] (by kernel_rfl) ?_
      refine Xg.At.same (by kernel_rfl) ?_ (ih (((i - 1, xx8.1)), fun j => ([iv n, iv at0, iv v, tu, tu, tu, Value.bool false, pv xx1 0, iv ((32768 : Int) + (↑xx2 : Int)), iv (↑xx3 : Int), iv (i - (1 : Int)), tu, tu, tu, tu, tu, tu, pv xx1 0, pv xx1 0, Value.bool false, pv xx1 0, tu, iv at0, iv (↑xx2 : Int), iv ((32768 : Int) + (↑xx2 : Int)), iv at0, iv (↑xx3 : Int), pv xx1 0, iv ((32768 : Int) + (↑xx2 : Int)), tu, pv xx1 0, iv (↑xx3 : Int), iv ((65024 : Int) + (↑xx3 : Int)), tu, pv xx1 0, tu, iv n, iv (↑xx7 : Int), iv i, Value.bool (decide (i > (0 : Int))), iv i, iv (i - (1 : Int)), pv xx1 0, iv xx8.snd, tu, tu, tu, tu, tu, tu, tu, tu, tu, tu, tu, tu, tu, tu, tu, tu, tu, tu, tu, tu, tu, tu, tu, tu, tu, tu, tu, tu, tu, tu, tu, tu, tu, tu, tu, tu, tu, tu, tu, tu, tu, tu, tu, tu, tu, tu, tu, tu, tu, tu, tu, tu, tu, tu, tu, tu, tu, tu, tu, tu, tu, tu, tu, tu, tu, tu, tu, tu, tu, tu, tu, tu, tu, tu, tu, tu, tu, tu, tu, tu, tu, tu, tu, tu, tu, tu, tu, tu, tu, tu, tu, tu, tu, tu, tu, tu] : List Value).getD j undef) ?_ ?_))
    · rfl
    · exact ⟨by dsimp only; omega, by dsimp only; omega, by rw [show xx8.1 = tickP σ by assumption]; exact hn'⟩
    · dsimp only; omega
  · clear ih
    have hi0 : i = 0 := by omega
    subst hi0
    have hm3 := lk_stat ht
    have hw8 := wrap_u8 v
    have hw9 := wrap_u8 (IntKind.wrap .i64 (v + 1))
    obtain ⟨hk1, hk2, hk3, hk4⟩ := lk_write (a := xx2) (k := xx3) (by omega) (by omega) ht v
    have rS := read_d xx1 σ hok.wf 65345 (by omega)
    have rA := read_d xx1 σ hok.wf (32768 + (xx2 : Int)) (by omega)
    have rK := read_d xx1 σ hok.wf (65024 + (xx3 : Int)) (by omega)
    have w1 := write_d xx1 σ hok.wf (32768 + (xx2 : Int)) v (by omega)
    have w2 := write_d xx1 _ hk1.wf (65024 + (xx3 : Int)) v (by omega)
    have eA : readI σ (32768 + (xx2 : Int)) = (if modeI σ = 3 then 255 else 17) := by
      unfold readI
      rw [if_pos (by omega), show (32768 + (xx2 : Int) - 32768).toNat = xx2 from by omega, ht.va]
    have eK : readI σ (65024 + (xx3 : Int)) = (if modeI σ ≥ 2 then 255 else 34) := by
      unfold readI
      rw [if_neg (by omega), if_pos (by omega), show (65024 + (xx3 : Int) - 65024).toNat = xx3 from by omega, ht.ok2]
    rw [eA] at rA
    rw [eK] at rK
    have hdm := fun τ (hτ : Pp.Ok τ) d => (dma_k xx1 τ hτ xx3 (by omega) d).mono (post' := RetE (fun x : Pp => x.Ok ∧ x.oam xx3 = d % 256 ∧ x.vram xx2 = τ.vram xx2) (fun _ => .tuple #[]) (fun x => [PpR xx1 x])) fun _ _ ⟨x, ⟨h1, h2, h3⟩, e1, e2⟩ => ⟨x, ⟨h1, h2, by rw [h3]⟩, e1, e2⟩
    obtain ⟨R, hR⟩ : ∃ R, readI σ 65345 = R := ⟨_, rfl⟩
    rw [hR] at rS hm3
    obtain ⟨τ1, hτ1⟩ : ∃ τ, writeP σ (32768 + (xx2 : Int)) v = τ := ⟨_, rfl⟩
    rw [hτ1] at hk1 hk2 hk3 hk4 w1 w2
    obtain ⟨τ2, hτ2⟩ : ∃ τ, writeP τ1 (65024 + (xx3 : Int)) v = τ := ⟨_, rfl⟩
    rw [hτ2] at hk2 hk3 hk4 w2
    have hmb := modeI_bd σ
    obtain ⟨m, hm⟩ : ∃ m, modeI σ = m := ⟨_, rfl⟩
    rw [hm] at hmb hm3 hk3 hk4 rA rK
    rcases (by omega : m = 0 ∨ m = 1 ∨ m = 2 ∨ m = 3) with e | e | e | e
    · subst e
      rw [if_neg (by omega)] at hk3 rA
      rw [if_neg (by omega)] at hk4 rK
      (focus
        refine Xg.at_seq ?_
        refine Xg.at_seq ?_
        refine Xg.at_region ?_
        refine Xg.ops_op (by kernel_rfl) (Xg.opx_pure ((iv 0)) rfl (fun _ => by kernel_rfl) ?_)
        refine Xg.ops_op (by kernel_rfl) (Xg.opx_pure ((Value.bool false)) rfl (fun _ => by kernel_rfl) ?_)
        refine Xg.ops_nil ?_
        refine Xg.at_false (t := false) (by kernel_rfl) rfl ?_
        refine Xg.at_exit rfl ?_
        refine Xg.at_seq ?_
        refine Xg.at_region ?_
        refine Xg.ops_op (by kernel_rfl) (Xg.opx_pure ((pv xx1 0)) rfl (fun _ => by kernel_rfl) ?_)
        refine Xg.ops_op (by kernel_rfl) (Xg.opx_call1' [0] [PpR xx1 σ, A] (fun _ => by kernel_rfl) (@rS ) (by kernel_rfl) (by kernel_rfl) (by kernel_rfl) ?_)
        refine Xg.ops_op (by kernel_rfl) (Xg.opx_pure (.int .i64 (Xg.band .i64 (R) (((3 : Int))))) rfl (fun _ => by kernel_rfl) ?_)
        refine Xg.ops_op (by kernel_rfl) (Xg.opx_pure ((iv (band IntKind.i64 R (3 : Int)))) rfl (fun _ => by kernel_rfl) ?_)
        refine Xg.ops_nil ?_
        refine Xg.at_seq ?_
        refine Xg.at_region ?_
        refine Xg.ops_op (by kernel_rfl) (Xg.opx_pure ((pv xx1 0)) rfl (fun _ => by kernel_rfl) ?_)
        refine Xg.ops_op (by kernel_rfl) (Xg.opx_pure ((iv ((32768 : Int) + (↑xx2 : Int)))) rfl (fun _ => by kernel_rfl) ?_)
        refine Xg.ops_op (by kernel_rfl) (Xg.opx_call1' [0] [PpR xx1 σ, A] (fun _ => by kernel_rfl) (@rA ) (by kernel_rfl) (by kernel_rfl) (by kernel_rfl) ?_)
        refine Xg.ops_op (by kernel_rfl) (Xg.opx_pure ((iv 17)) rfl (fun _ => by kernel_rfl) ?_)
        refine Xg.ops_nil ?_
        refine Xg.at_seq ?_
        refine Xg.at_region ?_
        refine Xg.ops_op (by kernel_rfl) (Xg.opx_pure ((pv xx1 0)) rfl (fun _ => by kernel_rfl) ?_)
        refine Xg.ops_op (by kernel_rfl) (Xg.opx_pure ((iv (↑xx3 : Int))) rfl (fun _ => by kernel_rfl) ?_)
        refine Xg.ops_op (by kernel_rfl) (Xg.opx_int .i64 (IntKind.wrap .i64 (((65024 : Int) + (↑xx3 : Int)))) rfl (fun _ => by kernel_rfl) (Xg.wrap_i64_in (by omega)) ?_)
        refine Xg.ops_op (by kernel_rfl) (Xg.opx_call1' [0] [PpR xx1 σ, A] (fun _ => by kernel_rfl) (@rK ) (by kernel_rfl) (by kernel_rfl) (by kernel_rfl) ?_)
        refine Xg.ops_op (by kernel_rfl) (Xg.opx_pure ((iv 34)) rfl (fun _ => by kernel_rfl) ?_)
        refine Xg.ops_nil ?_
        refine Xg.at_seq ?_
        refine Xg.at_region ?_
        refine Xg.ops_op (by kernel_rfl) (Xg.opx_pure ((pv xx1 0)) rfl (fun _ => by kernel_rfl) ?_)
        refine Xg.ops_op (by kernel_rfl) (Xg.opx_pure ((iv ((32768 : Int) + (↑xx2 : Int)))) rfl (fun _ => by kernel_rfl) ?_)
        refine Xg.ops_op (by kernel_rfl) (Xg.opx_pure ((iv v)) rfl (fun _ => by kernel_rfl) ?_)
        refine Xg.ops_op (by kernel_rfl) (Xg.opx_call1' [0] [PpR xx1 τ1, A] (fun _ => by kernel_rfl) (@w1 ) (by kernel_rfl) (by kernel_rfl) (by kernel_rfl) ?_)
        refine Xg.ops_nil ?_
        refine Xg.at_seq ?_
        refine Xg.at_region ?_
        refine Xg.ops_op (by kernel_rfl) (Xg.opx_pure ((pv xx1 0)) rfl (fun _ => by kernel_rfl) ?_)
        refine Xg.ops_op (by kernel_rfl) (Xg.opx_pure ((iv (↑xx3 : Int))) rfl (fun _ => by kernel_rfl) ?_)
        refine Xg.ops_op (by kernel_rfl) (Xg.opx_int .i64 (IntKind.wrap .i64 (((65024 : Int) + (↑xx3 : Int)))) rfl (fun _ => by kernel_rfl) (Xg.wrap_i64_in (by omega)) ?_)
        refine Xg.ops_op (by kernel_rfl) (Xg.opx_pure ((iv v)) rfl (fun _ => by kernel_rfl) ?_)
        refine Xg.ops_op (by kernel_rfl) (Xg.opx_call1' [0] [PpR xx1 τ2, A] (fun _ => by kernel_rfl) (@w2 ) (by kernel_rfl) (by kernel_rfl) (by kernel_rfl) ?_)
        refine Xg.ops_nil ?_
        refine Xg.at_seq ?_
        refine Xg.at_region ?_
        refine Xg.ops_op (by kernel_rfl) (Xg.opx_pure ((iv v)) rfl (fun _ => by kernel_rfl) ?_)
        refine Xg.ops_op (by kernel_rfl) (Xg.opx_int .u8 (IntKind.wrap .u8 (v)) rfl (fun _ => by kernel_rfl) (Xg.wrap_u8_mod _) ?_)
        refine Xg.ops_op (by kernel_rfl) (Xg.opx_int .i64 (IntKind.wrap .i64 ((v % (256 : Int)))) rfl (fun _ => by kernel_rfl) (Xg.wrap_i64_in (by omega)) ?_)
        refine Xg.ops_op (by kernel_rfl) (Xg.opx_pure ((iv (v % (256 : Int)))) rfl (fun _ => by kernel_rfl) ?_)
        refine Xg.ops_nil ?_
        refine Xg.at_seq ?_
        refine Xg.at_region ?_
        refine Xg.ops_op (by kernel_rfl) (Xg.opx_pure ((iv 17)) rfl (fun _ => by kernel_rfl) ?_)
        refine Xg.ops_nil ?_
        refine Xg.at_seq ?_
        refine Xg.at_region ?_
        refine Xg.ops_op (by kernel_rfl) (Xg.opx_pure ((iv 34)) rfl (fun _ => by kernel_rfl) ?_)
        refine Xg.ops_nil ?_
        refine Xg.at_seq ?_
        refine Xg.at_seq ?_
        refine Xg.at_region ?_
        refine Xg.ops_op (by kernel_rfl) (Xg.opx_pure ((iv (band IntKind.i64 R (3 : Int)))) rfl (fun _ => by kernel_rfl) ?_)
        refine Xg.ops_op (by kernel_rfl) (Xg.opx_pure (.bool (!decide (((band IntKind.i64 R (3 : Int)) : Int) = ((3 : Int))))) rfl (fun _ => by kernel_rfl) ?_)
        refine Xg.ops_nil ?_
        refine Xg.at_true (t := !decide ((band IntKind.i64 R (3 : Int) = (3 : Int)))) (by kernel_rfl) (by rw [decide_eq_false (by omega)]; rfl) ?_
        refine Xg.at_region ?_
        refine Xg.ops_op (by kernel_rfl) (Xg.opx_pure ((iv (v % (256 : Int)))) rfl (fun _ => by kernel_rfl) ?_)
        refine Xg.ops_op (by kernel_rfl) (Xg.opx_pure ((iv (v % (256 : Int)))) rfl (fun _ => by kernel_rfl) ?_)
        refine Xg.ops_nil ?_
        refine Xg.at_seq ?_
        refine Xg.at_seq ?_
        refine Xg.at_region ?_
        refine Xg.ops_op (by kernel_rfl) (Xg.opx_pure ((iv (band IntKind.i64 R (3 : Int)))) rfl (fun _ => by kernel_rfl) ?_)
        refine Xg.ops_op (by kernel_rfl) (Xg.opx_pure (.bool (decide (((band IntKind.i64 R (3 : Int)) : Int) < ((2 : Int))))) rfl (fun _ => by kernel_rfl) ?_)
        refine Xg.ops_nil ?_
        refine Xg.at_true (t := decide ((band IntKind.i64 R (3 : Int) < (2 : Int)))) (by kernel_rfl) (decide_eq_true (by omega)) ?_
        refine Xg.at_region ?_
        refine Xg.ops_op (by kernel_rfl) (Xg.opx_pure ((iv (v % (256 : Int)))) rfl (fun _ => by kernel_rfl) ?_)
        refine Xg.ops_op (by kernel_rfl) (Xg.opx_pure ((iv (v % (256 : Int)))) rfl (fun _ => by kernel_rfl) ?_)
        refine Xg.ops_nil ?_
        refine Xg.at_seq ?_
        refine Xg.at_seq ?_
        refine Xg.at_region ?_
        refine Xg.ops_op (by kernel_rfl) (Xg.opx_pure ((iv 17)) rfl (fun _ => by kernel_rfl) ?_)
        refine Xg.ops_op (by kernel_rfl) (Xg.opx_pure ((Value.bool true)) rfl (fun _ => by kernel_rfl) ?_)
        refine Xg.ops_op (by kernel_rfl) (Xg.opx_pure ((iv (band IntKind.i64 R (3 : Int)))) rfl (fun _ => by kernel_rfl) ?_)
        refine Xg.ops_op (by kernel_rfl) (Xg.opx_pure (.bool (!decide (((band IntKind.i64 R (3 : Int)) : Int) = ((3 : Int))))) rfl (fun _ => by kernel_rfl) ?_)
        refine Xg.ops_op (by kernel_rfl) (Xg.opx_eq (v := ((Value.bool !true == !decide (band IntKind.i64 R (3 : Int) = (3 : Int))))) (.bool (decide (band IntKind.i64 R (3 : Int) = (3 : Int)))) rfl (fun _ => by kernel_rfl) (by generalize ((decide (band IntKind.i64 R (3 : Int) = (3 : Int))) : Bool) = bb; cases bb <;> rfl) ?_)
        refine Xg.ops_op (by kernel_rfl) (Xg.opx_pure ((Value.bool (decide (band IntKind.i64 R (3 : Int) = (3 : Int))))) rfl (fun _ => by kernel_rfl) ?_)
        refine Xg.ops_flag (j := 77) (c := (decide (band IntKind.i64 R (3 : Int) = (3 : Int)))) (by kernel_rfl) (fun xh8 => absurd (of_decide_eq_true xh8) (by omega)) (fun _ => ?_)
        refine Xg.ops_op (by kernel_rfl) (Xg.opx_pure ((iv 34)) rfl (fun _ => by kernel_rfl) ?_)
        refine Xg.ops_op (by kernel_rfl) (Xg.opx_pure ((Value.bool true)) rfl (fun _ => by kernel_rfl) ?_)
        refine Xg.ops_op (by kernel_rfl) (Xg.opx_pure ((iv (band IntKind.i64 R (3 : Int)))) rfl (fun _ => by kernel_rfl) ?_)
        refine Xg.ops_op (by kernel_rfl) (Xg.opx_pure (.bool (decide (((band IntKind.i64 R (3 : Int)) : Int) < ((2 : Int))))) rfl (fun _ => by kernel_rfl) ?_)
        refine Xg.ops_op (by kernel_rfl) (Xg.opx_eq (v := ((Value.bool !true == decide (band IntKind.i64 R (3 : Int) < (2 : Int))))) (.bool (!(decide (band IntKind.i64 R (3 : Int) < (2 : Int))))) rfl (fun _ => by kernel_rfl) (by generalize ((decide (band IntKind.i64 R (3 : Int) < (2 : Int))) : Bool) = bb; cases bb <;> rfl) ?_)
        refine Xg.ops_flag (j := 82) (c := (!decide (band IntKind.i64 R (3 : Int) < (2 : Int)))) (by kernel_rfl) (fun xh8 => absurd xh8 (by rw [decide_eq_true (p := (band IntKind.i64 R (3 : Int) < (2 : Int))) (by omega)]; decide)) (fun _ => ?_)
        refine Xg.ops_op (by kernel_rfl) (Xg.opx_pure ((Value.bool false)) rfl (fun _ => by kernel_rfl) ?_)
        refine Xg.ops_op (by kernel_rfl) (Xg.opx_pure ((Value.bool false)) rfl (fun _ => by kernel_rfl) ?_)
        refine Xg.ops_op (by kernel_rfl) (Xg.opx_pure ((iv (band IntKind.i64 R (3 : Int)))) rfl (fun _ => by kernel_rfl) ?_)
        refine Xg.ops_op (by kernel_rfl) (Xg.opx_pure (.bool (decide (((band IntKind.i64 R (3 : Int)) : Int) = ((3 : Int))))) rfl (fun _ => by kernel_rfl) ?_)
        refine Xg.ops_op (by kernel_rfl) (Xg.opx_pure ((Value.bool (decide (band IntKind.i64 R (3 : Int) = (3 : Int))))) rfl (fun _ => by kernel_rfl) ?_)
        refine Xg.ops_flag (j := 87) (c := (decide (band IntKind.i64 R (3 : Int) = (3 : Int)))) (by kernel_rfl) (fun xh8 => absurd (of_decide_eq_true xh8) (by omega)) (fun _ => ?_)
        refine Xg.ops_skip (by kernel_rfl) ?_
        refine Xg.ops_skip (by kernel_rfl) ?_
        refine Xg.ops_op (by kernel_rfl) (Xg.opx_pure ((Value.bool false)) rfl (fun _ => by kernel_rfl) ?_)
        refine Xg.ops_op (by kernel_rfl) (Xg.opx_pure ((Value.bool false)) rfl (fun _ => by kernel_rfl) ?_)
        refine Xg.ops_op (by kernel_rfl) (Xg.opx_pure ((Value.bool false)) rfl (fun _ => by kernel_rfl) ?_)
        refine Xg.ops_op (by kernel_rfl) (Xg.opx_pure ((iv (band IntKind.i64 R (3 : Int)))) rfl (fun _ => by kernel_rfl) ?_)
        refine Xg.ops_op (by kernel_rfl) (Xg.opx_pure (.bool (decide (((band IntKind.i64 R (3 : Int)) : Int) > ((1 : Int))))) rfl (fun _ => by kernel_rfl) ?_)
        refine Xg.ops_op (by kernel_rfl) (Xg.opx_pure ((Value.bool (decide (band IntKind.i64 R (3 : Int) > (1 : Int))))) rfl (fun _ => by kernel_rfl) ?_)
        refine Xg.ops_flag (j := 95) (c := (decide (band IntKind.i64 R (3 : Int) > (1 : Int)))) (by kernel_rfl) (fun xh8 => absurd (of_decide_eq_true xh8) (by omega)) (fun _ => ?_)
        refine Xg.ops_skip (by kernel_rfl) ?_
        refine Xg.ops_skip (by kernel_rfl) ?_
        refine Xg.ops_op (by kernel_rfl) (Xg.opx_pure ((Value.bool false)) rfl (fun _ => by kernel_rfl) ?_)
        refine Xg.ops_op (by kernel_rfl) (Xg.opx_pure ((Value.bool false)) rfl (fun _ => by kernel_rfl) ?_)
        refine Xg.ops_op (by kernel_rfl) (Xg.opx_pure ((Value.bool false)) rfl (fun _ => by kernel_rfl) ?_)
        refine Xg.ops_op (by kernel_rfl) (Xg.opx_pure ((pv xx1 0)) rfl (fun _ => by kernel_rfl) ?_)
        refine Xg.ops_op (by kernel_rfl) (Xg.opx_pure ((iv ((32768 : Int) + (↑xx2 : Int)))) rfl (fun _ => by kernel_rfl) ?_)
        refine Xg.ops_op (by kernel_rfl) (Xg.opx_call1' [0] [PpR xx1 τ2, A] (fun _ => by kernel_rfl) (@Go.Proofs.Ytkfclamiendamaa.memv_k (xx1) (τ2) (by omega) (xx2) (by omega)) (by kernel_rfl) (by kernel_rfl) (by kernel_rfl) ?_)
        refine Xg.ops_op (by kernel_rfl) (Xg.opx_pure ((iv (v % (256 : Int)))) rfl (fun _ => by kernel_rfl) ?_)
        refine Xg.ops_op (by kernel_rfl) (Xg.opx_pure (.bool (!decide (((τ2.vram xx2) : Int) = (v % (256 : Int))))) rfl (fun _ => by kernel_rfl) ?_)
        refine Xg.ops_flag (j := 105) (c := (!decide (τ2.vram xx2 = v % (256 : Int)))) (by kernel_rfl) (fun xh8 => absurd xh8 (by rw [decide_eq_true (p := (τ2.vram xx2 = v % (256 : Int))) (by omega)]; decide)) (fun _ => ?_)
        refine Xg.ops_op (by kernel_rfl) (Xg.opx_pure ((Value.bool false)) rfl (fun _ => by kernel_rfl) ?_)
        refine Xg.ops_op (by kernel_rfl) (Xg.opx_pure ((Value.bool false)) rfl (fun _ => by kernel_rfl) ?_)
        refine Xg.ops_op (by kernel_rfl) (Xg.opx_pure ((pv xx1 0)) rfl (fun _ => by kernel_rfl) ?_)
        refine Xg.ops_op (by kernel_rfl) (Xg.opx_pure ((iv (↑xx3 : Int))) rfl (fun _ => by kernel_rfl) ?_)
        refine Xg.ops_op (by kernel_rfl) (Xg.opx_int .i64 (IntKind.wrap .i64 (((65024 : Int) + (↑xx3 : Int)))) rfl (fun _ => by kernel_rfl) (Xg.wrap_i64_in (by omega)) ?_)
        refine Xg.ops_op (by kernel_rfl) (Xg.opx_call1' [0] [PpR xx1 τ2, A] (fun _ => by kernel_rfl) (@Go.Proofs.Ytkfclamiendamaa.memo_k (xx1) (τ2) (by omega) (xx3) (by omega)) (by kernel_rfl) (by kernel_rfl) (by kernel_rfl) ?_)
        refine Xg.ops_op (by kernel_rfl) (Xg.opx_pure ((iv (v % (256 : Int)))) rfl (fun _ => by kernel_rfl) ?_)
        refine Xg.ops_op (by kernel_rfl) (Xg.opx_pure (.bool (!decide (((τ2.oam xx3) : Int) = (v % (256 : Int))))) rfl (fun _ => by kernel_rfl) ?_)
        refine Xg.ops_flag (j := 113) (c := (!decide (τ2.oam xx3 = v % (256 : Int)))) (by kernel_rfl) (fun xh8 => absurd xh8 (by rw [decide_eq_true (p := (τ2.oam xx3 = v % (256 : Int))) (by omega)]; decide)) (fun _ => ?_)
        refine Xg.ops_op (by kernel_rfl) (Xg.opx_pure ((Value.bool false)) rfl (fun _ => by kernel_rfl) ?_)
        refine Xg.ops_nil ?_
        refine Xg.at_false (t := false) (by kernel_rfl) rfl ?_
        refine Xg.at_skip ?_
        refine Xg.at_seq ?_
        refine Xg.at_region ?_
        refine Xg.ops_op (by kernel_rfl) (Xg.opx_pure ((pv xx1 0)) rfl (fun _ => by kernel_rfl) ?_)
        refine Xg.ops_op (by kernel_rfl) (Xg.opx_pure ((iv (↑xx3 : Int))) rfl (fun _ => by kernel_rfl) ?_)
        refine Xg.ops_op (by kernel_rfl) (Xg.opx_pure ((iv v)) rfl (fun _ => by kernel_rfl) ?_)
        refine Xg.ops_op (by kernel_rfl) (Xg.opx_pure (.int .i64 (IntKind.wrap .i64 ((v + (1 : Int))))) rfl (fun _ => by kernel_rfl) ?_)
        refine Xg.ops_op (by kernel_rfl) (Xg.opx_callE' [0] (fun xx8 => [PpR xx1 xx8, A]) (fun _ => by kernel_rfl) (@hdm (τ2) (by omega) ((IntKind.i64.wrap (v + (1 : Int))))) (by kernel_rfl) (by kernel_rfl) (by kernel_rfl) fun xx8 xh8 => ?_)
        try dsimp only at xh8
        obtain ⟨xh8_0, xh8_1, xh8_2⟩ := xh8
        refine Xg.ops_nil ?_
        refine Xg.at_seq ?_
        refine Xg.at_region ?_
        refine Xg.ops_op (by kernel_rfl) (Xg.opx_pure ((pv xx1 0)) rfl (fun _ => by kernel_rfl) ?_)
        refine Xg.ops_op (by kernel_rfl) (Xg.opx_call1' [0] [PpR xx1 xx8, A] (fun _ => by kernel_rfl) (@Go.Proofs.Ytkfclamiendamaa.dma_x (xx1) (xx8) (((160 : Int))) (((5 : Int))) (by omega)) (by kernel_rfl) (by kernel_rfl) (by kernel_rfl) ?_)
        refine Xg.ops_nil ?_
        refine Xg.at_seq ?_
        refine Xg.at_region ?_
        refine Xg.ops_op (by kernel_rfl) (Xg.opx_pure ((pv xx1 0)) rfl (fun _ => by kernel_rfl) ?_)
        refine Xg.ops_op (by kernel_rfl) (Xg.opx_call1' [0] [PpR xx1 xx8, A] (fun _ => by kernel_rfl) (@Go.Proofs.Ytkfclamiendamaa.dma_x (xx1) (xx8) (((-1 : Int))) (((5 : Int))) (by omega)) (by kernel_rfl) (by kernel_rfl) (by kernel_rfl) ?_)
        refine Xg.ops_nil ?_
        refine Xg.at_seq ?_
        refine Xg.at_region ?_
        refine Xg.ops_op (by kernel_rfl) (Xg.opx_pure ((pv xx1 0)) rfl (fun _ => by kernel_rfl) ?_)
        refine Xg.ops_op (by kernel_rfl) (Xg.opx_pure ((iv (↑xx3 : Int))) rfl (fun _ => by kernel_rfl) ?_)
        refine Xg.ops_op (by kernel_rfl) (Xg.opx_int .i64 (IntKind.wrap .i64 (((65024 : Int) + (↑xx3 : Int)))) rfl (fun _ => by kernel_rfl) (Xg.wrap_i64_in (by omega)) ?_)
        refine Xg.ops_op (by kernel_rfl) (Xg.opx_call1' [0] [PpR xx1 xx8, A] (fun _ => by kernel_rfl) (@Go.Proofs.Ytkfclamiendamaa.memo_k (xx1) (xx8) (by omega) (xx3) (by omega)) (by kernel_rfl) (by kernel_rfl) (by kernel_rfl) ?_)
        refine Xg.ops_op (by kernel_rfl) (Xg.opx_pure ((iv v)) rfl (fun _ => by kernel_rfl) ?_)
        refine Xg.ops_op (by kernel_rfl) (Xg.opx_pure (.int .i64 (IntKind.wrap .i64 ((v + (1 : Int))))) rfl (fun _ => by kernel_rfl) ?_)
        refine Xg.ops_op (by kernel_rfl) (Xg.opx_int .u8 (IntKind.wrap .u8 ((IntKind.i64.wrap (v + (1 : Int))))) rfl (fun _ => by kernel_rfl) (Xg.wrap_u8_mod _) ?_)
        refine Xg.ops_op (by kernel_rfl) (Xg.opx_int .i64 (IntKind.wrap .i64 ((IntKind.i64.wrap (v + (1 : Int)) % (256 : Int)))) rfl (fun _ => by kernel_rfl) (Xg.wrap_i64_in (by omega)) ?_)
        refine Xg.ops_op (by kernel_rfl) (Xg.opx_pure (.bool (decide (((xx8.oam xx3) : Int) = (IntKind.i64.wrap (v + (1 : Int)) % (256 : Int))))) rfl (fun _ => by kernel_rfl) ?_)
        refine Xg.ops_op (by kernel_rfl) (Xg.opx_pure ((Value.bool (decide (xx8.oam xx3 = IntKind.i64.wrap (v + (1 : Int)) % (256 : Int))))) rfl (fun _ => by kernel_rfl) ?_)
        refine Xg.ops_flag (j := 133) (c := (decide (xx8.oam xx3 = IntKind.i64.wrap (v + (1 : Int)) % (256 : Int)))) (by kernel_rfl) (fun _ => ?_) (fun xh9 => absurd (of_decide_eq_false xh9) (by omega))
        refine Xg.ops_op (by kernel_rfl) (Xg.opx_pure ((pv xx1 0)) rfl (fun _ => by kernel_rfl) ?_)
        refine Xg.ops_op (by kernel_rfl) (Xg.opx_pure ((iv ((32768 : Int) + (↑xx2 : Int)))) rfl (fun _ => by kernel_rfl) ?_)
        refine Xg.ops_op (by kernel_rfl) (Xg.opx_call1' [0] [PpR xx1 xx8, A] (fun _ => by kernel_rfl) (@Go.Proofs.Ytkfclamiendamaa.memv_k (xx1) (xx8) (by omega) (xx2) (by omega)) (by kernel_rfl) (by kernel_rfl) (by kernel_rfl) ?_)
        refine Xg.ops_op (by kernel_rfl) (Xg.opx_pure ((iv (v % (256 : Int)))) rfl (fun _ => by kernel_rfl) ?_)
        refine Xg.ops_op (by kernel_rfl) (Xg.opx_pure (.bool (decide (((xx8.vram xx2) : Int) = (v % (256 : Int))))) rfl (fun _ => by kernel_rfl) ?_)
        refine Xg.ops_flag (j := 138) (c := (decide (xx8.vram xx2 = v % (256 : Int)))) (by kernel_rfl) (fun _ => ?_) (fun xh9 => absurd (of_decide_eq_false xh9) (by omega))
        refine Xg.ops_op (by kernel_rfl) (Xg.opx_pure ((Value.bool true)) rfl (fun _ => by kernel_rfl) ?_)
        refine Xg.ops_op (by kernel_rfl) (Xg.opx_pure ((Value.bool true)) rfl (fun _ => by kernel_rfl) ?_)
        refine Xg.ops_nil ?_
        refine Xg.at_ret_ps (v := (Value.bool true)) [1] [A] Go.Proofs.Try.func16 (fun _ => by kernel_rfl) (by kernel_rfl) (by kernel_rfl) ?_
        exact ⟨by kernel_rfl, by kernel_rfl⟩)
    · subst e
      rw [if_neg (by omega)] at hk3 rA
      rw [if_neg (by omega)] at hk4 rK
      (focus
        refine Xg.at_seq ?_
        refine Xg.at_seq ?_
        refine Xg.at_region ?_
        refine Xg.ops_op (by kernel_rfl) (Xg.opx_pure ((iv 0)) rfl (fun _ => by kernel_rfl) ?_)
        refine Xg.ops_op (by kernel_rfl) (Xg.opx_pure ((Value.bool false)) rfl (fun _ => by kernel_rfl) ?_)
        refine Xg.ops_nil ?_
        refine Xg.at_false (t := false) (by kernel_rfl) rfl ?_
        refine Xg.at_exit rfl ?_
        refine Xg.at_seq ?_
        refine Xg.at_region ?_
        refine Xg.ops_op (by kernel_rfl) (Xg.opx_pure ((pv xx1 0)) rfl (fun _ => by kernel_rfl) ?_)
        refine Xg.ops_op (by kernel_rfl) (Xg.opx_call1' [0] [PpR xx1 σ, A] (fun _ => by kernel_rfl) (@rS ) (by kernel_rfl) (by kernel_rfl) (by kernel_rfl) ?_)
        refine Xg.ops_op (by kernel_rfl) (Xg.opx_pure (.int .i64 (Xg.band .i64 (R) (((3 : Int))))) rfl (fun _ => by kernel_rfl) ?_)
        refine Xg.ops_op (by kernel_rfl) (Xg.opx_pure ((iv (band IntKind.i64 R (3 : Int)))) rfl (fun _ => by kernel_rfl) ?_)
        refine Xg.ops_nil ?_
        refine Xg.at_seq ?_
        refine Xg.at_region ?_
        refine Xg.ops_op (by kernel_rfl) (Xg.opx_pure ((pv xx1 0)) rfl (fun _ => by kernel_rfl) ?_)
        refine Xg.ops_op (by kernel_rfl) (Xg.opx_pure ((iv ((32768 : Int) + (↑xx2 : Int)))) rfl (fun _ => by kernel_rfl) ?_)
        refine Xg.ops_op (by kernel_rfl) (Xg.opx_call1' [0] [PpR xx1 σ, A] (fun _ => by kernel_rfl) (@rA ) (by kernel_rfl) (by kernel_rfl) (by kernel_rfl) ?_)
        refine Xg.ops_op (by kernel_rfl) (Xg.opx_pure ((iv 17)) rfl (fun _ => by kernel_rfl) ?_)
        refine Xg.ops_nil ?_
        refine Xg.at_seq ?_
        refine Xg.at_region ?_
        refine Xg.ops_op (by kernel_rfl) (Xg.opx_pure ((pv xx1 0)) rfl (fun _ => by kernel_rfl) ?_)
        refine Xg.ops_op (by kernel_rfl) (Xg.opx_pure ((iv (↑xx3 : Int))) rfl (fun _ => by kernel_rfl) ?_)
        refine Xg.ops_op (by kernel_rfl) (Xg.opx_int .i64 (IntKind.wrap .i64 (((65024 : Int) + (↑xx3 : Int)))) rfl (fun _ => by kernel_rfl) (Xg.wrap_i64_in (by omega)) ?_)
        refine Xg.ops_op (by kernel_rfl) (Xg.opx_call1' [0] [PpR xx1 σ, A] (fun _ => by kernel_rfl) (@rK ) (by kernel_rfl) (by kernel_rfl) (by kernel_rfl) ?_)
        refine Xg.ops_op (by kernel_rfl) (Xg.opx_pure ((iv 34)) rfl (fun _ => by kernel_rfl) ?_)
        refine Xg.ops_nil ?_
        refine Xg.at_seq ?_
        refine Xg.at_region ?_
        refine Xg.ops_op (by kernel_rfl) (Xg.opx_pure ((pv xx1 0)) rfl (fun _ => by kernel_rfl) ?_)
        refine Xg.ops_op (by kernel_rfl) (Xg.opx_pure ((iv ((32768 : Int) + (↑xx2 : Int)))) rfl (fun _ => by kernel_rfl) ?_)
        refine Xg.ops_op (by kernel_rfl) (Xg.opx_pure ((iv v)) rfl (fun _ => by kernel_rfl) ?_)
        refine Xg.ops_op (by kernel_rfl) (Xg.opx_call1' [0] [PpR xx1 τ1, A] (fun _ => by kernel_rfl) (@w1 ) (by kernel_rfl) (by kernel_rfl) (by kernel_rfl) ?_)
        refine Xg.ops_nil ?_
        refine Xg.at_seq ?_
        refine Xg.at_region ?_
        refine Xg.ops_op (by kernel_rfl) (Xg.opx_pure ((pv xx1 0)) rfl (fun _ => by kernel_rfl) ?_)
        refine Xg.ops_op (by kernel_rfl) (Xg.opx_pure ((iv (↑xx3 : Int))) rfl (fun _ => by kernel_rfl) ?_)
        refine Xg.ops_op (by kernel_rfl) (Xg.opx_int .i64 (IntKind.wrap .i64 (((65024 : Int) + (↑xx3 : Int)))) rfl (fun _ => by kernel_rfl) (Xg.wrap_i64_in (by omega)) ?_)
        refine Xg.ops_op (by kernel_rfl) (Xg.opx_pure ((iv v)) rfl (fun _ => by kernel_rfl) ?_)
        refine Xg.ops_op (by kernel_rfl) (Xg.opx_call1' [0] [PpR xx1 τ2, A] (fun _ => by kernel_rfl) (@w2 ) (by kernel_rfl) (by kernel_rfl) (by kernel_rfl) ?_)
        refine Xg.ops_nil ?_
        refine Xg.at_seq ?_
        refine Xg.at_region ?_
        refine Xg.ops_op (by kernel_rfl) (Xg.opx_pure ((iv v)) rfl (fun _ => by kernel_rfl) ?_)
        refine Xg.ops_op (by kernel_rfl) (Xg.opx_int .u8 (IntKind.wrap .u8 (v)) rfl (fun _ => by kernel_rfl) (Xg.wrap_u8_mod _) ?_)
        refine Xg.ops_op (by kernel_rfl) (Xg.opx_int .i64 (IntKind.wrap .i64 ((v % (256 : Int)))) rfl (fun _ => by kernel_rfl) (Xg.wrap_i64_in (by omega)) ?_)
        refine Xg.ops_op (by kernel_rfl) (Xg.opx_pure ((iv (v % (256 : Int)))) rfl (fun _ => by kernel_rfl) ?_)
        refine Xg.ops_nil ?_
        refine Xg.at_seq ?_
        refine Xg.at_region ?_
        refine Xg.ops_op (by kernel_rfl) (Xg.opx_pure ((iv 17)) rfl (fun _ => by kernel_rfl) ?_)
        refine Xg.ops_nil ?_
        refine Xg.at_seq ?_
        refine Xg.at_region ?_
        refine Xg.ops_op (by kernel_rfl) (Xg.opx_pure ((iv 34)) rfl (fun _ => by kernel_rfl) ?_)
        refine Xg.ops_nil ?_
        refine Xg.at_seq ?_
        refine Xg.at_seq ?_
        refine Xg.at_region ?_
        refine Xg.ops_op (by kernel_rfl) (Xg.opx_pure ((iv (band IntKind.i64 R (3 : Int)))) rfl (fun _ => by kernel_rfl) ?_)
        refine Xg.ops_op (by kernel_rfl) (Xg.opx_pure (.bool (!decide (((band IntKind.i64 R (3 : Int)) : Int) = ((3 : Int))))) rfl (fun _ => by kernel_rfl) ?_)
        refine Xg.ops_nil ?_
        refine Xg.at_true (t := !decide ((band IntKind.i64 R (3 : Int) = (3 : Int)))) (by kernel_rfl) (by rw [decide_eq_false (by omega)]; rfl) ?_
        refine Xg.at_region ?_
        refine Xg.ops_op (by kernel_rfl) (Xg.opx_pure ((iv (v % (256 : Int)))) rfl (fun _ => by kernel_rfl) ?_)
        refine Xg.ops_op (by kernel_rfl) (Xg.opx_pure ((iv (v % (256 : Int)))) rfl (fun _ => by kernel_rfl) ?_)
        refine Xg.ops_nil ?_
        refine Xg.at_seq ?_
        refine Xg.at_seq ?_
        refine Xg.at_region ?_
        refine Xg.ops_op (by kernel_rfl) (Xg.opx_pure ((iv (band IntKind.i64 R (3 : Int)))) rfl (fun _ => by kernel_rfl) ?_)
        refine Xg.ops_op (by kernel_rfl) (Xg.opx_pure (.bool (decide (((band IntKind.i64 R (3 : Int)) : Int) < ((2 : Int))))) rfl (fun _ => by kernel_rfl) ?_)
        refine Xg.ops_nil ?_
        refine Xg.at_true (t := decide ((band IntKind.i64 R (3 : Int) < (2 : Int)))) (by kernel_rfl) (decide_eq_true (by omega)) ?_
        refine Xg.at_region ?_
        refine Xg.ops_op (by kernel_rfl) (Xg.opx_pure ((iv (v % (256 : Int)))) rfl (fun _ => by kernel_rfl) ?_)
        refine Xg.ops_op (by kernel_rfl) (Xg.opx_pure ((iv (v % (256 : Int)))) rfl (fun _ => by kernel_rfl) ?_)
        refine Xg.ops_nil ?_
        refine Xg.at_seq ?_
        refine Xg.at_seq ?_
        refine Xg.at_region ?_
        refine Xg.ops_op (by kernel_rfl) (Xg.opx_pure ((iv 17)) rfl (fun _ => by kernel_rfl) ?_)
        refine Xg.ops_op (by kernel_rfl) (Xg.opx_pure ((Value.bool true)) rfl (fun _ => by kernel_rfl) ?_)
        refine Xg.ops_op (by kernel_rfl) (Xg.opx_pure ((iv (band IntKind.i64 R (3 : Int)))) rfl (fun _ => by kernel_rfl) ?_)
        refine Xg.ops_op (by kernel_rfl) (Xg.opx_pure (.bool (!decide (((band IntKind.i64 R (3 : Int)) : Int) = ((3 : Int))))) rfl (fun _ => by kernel_rfl) ?_)
        refine Xg.ops_op (by kernel_rfl) (Xg.opx_eq (v := ((Value.bool !true == !decide (band IntKind.i64 R (3 : Int) = (3 : Int))))) (.bool (decide (band IntKind.i64 R (3 : Int) = (3 : Int)))) rfl (fun _ => by kernel_rfl) (by generalize ((decide (band IntKind.i64 R (3 : Int) = (3 : Int))) : Bool) = bb; cases bb <;> rfl) ?_)
        refine Xg.ops_op (by kernel_rfl) (Xg.opx_pure ((Value.bool (decide (band IntKind.i64 R (3 : Int) = (3 : Int))))) rfl (fun _ => by kernel_rfl) ?_)
        refine Xg.ops_flag (j := 77) (c := (decide (band IntKind.i64 R (3 : Int) = (3 : Int)))) (by kernel_rfl) (fun xh8 => absurd (of_decide_eq_true xh8) (by omega)) (fun _ => ?_)
        refine Xg.ops_op (by kernel_rfl) (Xg.opx_pure ((iv 34)) rfl (fun _ => by kernel_rfl) ?_)
        refine Xg.ops_op (by kernel_rfl) (Xg.opx_pure ((Value.bool true)) rfl (fun _ => by kernel_rfl) ?_)
        refine Xg.ops_op (by kernel_rfl) (Xg.opx_pure ((iv (band IntKind.i64 R (3 : Int)))) rfl (fun _ => by kernel_rfl) ?_)
        refine Xg.ops_op (by kernel_rfl) (Xg.opx_pure (.bool (decide (((band IntKind.i64 R (3 : Int)) : Int) < ((2 : Int))))) rfl (fun _ => by kernel_rfl) ?_)
        refine Xg.ops_op (by kernel_rfl) (Xg.opx_eq (v := ((Value.bool !true == decide (band IntKind.i64 R (3 : Int) < (2 : Int))))) (.bool (!(decide (band IntKind.i64 R (3 : Int) < (2 : Int))))) rfl (fun _ => by kernel_rfl) (by generalize ((decide (band IntKind.i64 R (3 : Int) < (2 : Int))) : Bool) = bb; cases bb <;> rfl) ?_)
        refine Xg.ops_flag (j := 82) (c := (!decide (band IntKind.i64 R (3 : Int) < (2 : Int)))) (by kernel_rfl) (fun xh8 => absurd xh8 (by rw [decide_eq_true (p := (band IntKind.i64 R (3 : Int) < (2 : Int))) (by omega)]; decide)) (fun _ => ?_)
        refine Xg.ops_op (by kernel_rfl) (Xg.opx_pure ((Value.bool false)) rfl (fun _ => by kernel_rfl) ?_)
        refine Xg.ops_op (by kernel_rfl) (Xg.opx_pure ((Value.bool false)) rfl (fun _ => by kernel_rfl) ?_)
        refine Xg.ops_op (by kernel_rfl) (Xg.opx_pure ((iv (band IntKind.i64 R (3 : Int)))) rfl (fun _ => by kernel_rfl) ?_)
        refine Xg.ops_op (by kernel_rfl) (Xg.opx_pure (.bool (decide (((band IntKind.i64 R (3 : Int)) : Int) = ((3 : Int))))) rfl (fun _ => by kernel_rfl) ?_)
        refine Xg.ops_op (by kernel_rfl) (Xg.opx_pure ((Value.bool (decide (band IntKind.i64 R (3 : Int) = (3 : Int))))) rfl (fun _ => by kernel_rfl) ?_)
        refine Xg.ops_flag (j := 87) (c := (decide (band IntKind.i64 R (3 : Int) = (3 : Int)))) (by kernel_rfl) (fun xh8 => absurd (of_decide_eq_true xh8) (by omega)) (fun _ => ?_)
        refine Xg.ops_skip (by kernel_rfl) ?_
        refine Xg.ops_skip (by kernel_rfl) ?_
        refine Xg.ops_op (by kernel_rfl) (Xg.opx_pure ((Value.bool false)) rfl (fun _ => by kernel_rfl) ?_)
        refine Xg.ops_op (by kernel_rfl) (Xg.opx_pure ((Value.bool false)) rfl (fun _ => by kernel_rfl) ?_)
        refine Xg.ops_op (by kernel_rfl) (Xg.opx_pure ((Value.bool false)) rfl (fun _ => by kernel_rfl) ?_)
        refine Xg.ops_op (by kernel_rfl) (Xg.opx_pure ((iv (band IntKind.i64 R (3 : Int)))) rfl (fun _ => by kernel_rfl) ?_)
        refine Xg.ops_op (by kernel_rfl) (Xg.opx_pure (.bool (decide (((band IntKind.i64 R (3 : Int)) : Int) > ((1 : Int))))) rfl (fun _ => by kernel_rfl) ?_)
        refine Xg.ops_op (by kernel_rfl) (Xg.opx_pure ((Value.bool (decide (band IntKind.i64 R (3 : Int) > (1 : Int))))) rfl (fun _ => by kernel_rfl) ?_)
        refine Xg.ops_flag (j := 95) (c := (decide (band IntKind.i64 R (3 : Int) > (1 : Int)))) (by kernel_rfl) (fun xh8 => absurd (of_decide_eq_true xh8) (by omega)) (fun _ => ?_)
        refine Xg.ops_skip (by kernel_rfl) ?_
        refine Xg.ops_skip (by kernel_rfl) ?_
        refine Xg.ops_op (by kernel_rfl) (Xg.opx_pure ((Value.bool false)) rfl (fun _ => by kernel_rfl) ?_)
        refine Xg.ops_op (by kernel_rfl) (Xg.opx_pure ((Value.bool false)) rfl (fun _ => by kernel_rfl) ?_)
        refine Xg.ops_op (by kernel_rfl) (Xg.opx_pure ((Value.bool false)) rfl (fun _ => by kernel_rfl) ?_)
        refine Xg.ops_op (by kernel_rfl) (Xg.opx_pure ((pv xx1 0)) rfl (fun _ => by kernel_rfl) ?_)
        refine Xg.ops_op (by kernel_rfl) (Xg.opx_pure ((iv ((32768 : Int) + (↑xx2 : Int)))) rfl (fun _ => by kernel_rfl) ?_)
        refine Xg.ops_op (by kernel_rfl) (Xg.opx_call1' [0] [PpR xx1 τ2, A] (fun _ => by kernel_rfl) (@Go.Proofs.Ytkfclamiendamaa.memv_k (xx1) (τ2) (by omega) (xx2) (by omega)) (by kernel_rfl) (by kernel_rfl) (by kernel_rfl) ?_)
        refine Xg.ops_op (by kernel_rfl) (Xg.opx_pure ((iv (v % (256 : Int)))) rfl (fun _ => by kernel_rfl) ?_)
        refine Xg.ops_op (by kernel_rfl) (Xg.opx_pure (.bool (!decide (((τ2.vram xx2) : Int) = (v % (256 : Int))))) rfl (fun _ => by kernel_rfl) ?_)
        refine Xg.ops_flag (j := 105) (c := (!decide (τ2.vram xx2 = v % (256 : Int)))) (by kernel_rfl) (fun xh8 => absurd xh8 (by rw [decide_eq_true (p := (τ2.vram xx2 = v % (256 : Int))) (by omega)]; decide)) (fun _ => ?_)
        refine Xg.ops_op (by kernel_rfl) (Xg.opx_pure ((Value.bool false)) rfl (fun _ => by kernel_rfl) ?_)
        refine Xg.ops_op (by kernel_rfl) (Xg.opx_pure ((Value.bool false)) rfl (fun _ => by kernel_rfl) ?_)
        refine Xg.ops_op (by kernel_rfl) (Xg.opx_pure ((pv xx1 0)) rfl (fun _ => by kernel_rfl) ?_)
        refine Xg.ops_op (by kernel_rfl) (Xg.opx_pure ((iv (↑xx3 : Int))) rfl (fun _ => by kernel_rfl) ?_)
        refine Xg.ops_op (by kernel_rfl) (Xg.opx_int .i64 (IntKind.wrap .i64 (((65024 : Int) + (↑xx3 : Int)))) rfl (fun _ => by kernel_rfl) (Xg.wrap_i64_in (by omega)) ?_)
        refine Xg.ops_op (by kernel_rfl) (Xg.opx_call1' [0] [PpR xx1 τ2, A] (fun _ => by kernel_rfl) (@Go.Proofs.Ytkfclamiendamaa.memo_k (xx1) (τ2) (by omega) (xx3) (by omega)) (by kernel_rfl) (by kernel_rfl) (by kernel_rfl) ?_)
        refine Xg.ops_op (by kernel_rfl) (Xg.opx_pure ((iv (v % (256 : Int)))) rfl (fun _ => by kernel_rfl) ?_)
        refine Xg.ops_op (by kernel_rfl) (Xg.opx_pure (.bool (!decide (((τ2.oam xx3) : Int) = (v % (256 : Int))))) rfl (fun _ => by kernel_rfl) ?_)
        refine Xg.ops_flag (j := 113) (c := (!decide (τ2.oam xx3 = v % (256 : Int)))) (by kernel_rfl) (fun xh8 => absurd xh8 (by rw [decide_eq_true (p := (τ2.oam xx3 = v % (256 : Int))) (by omega)]; decide)) (fun _ => ?_)
        refine Xg.ops_op (by kernel_rfl) (Xg.opx_pure ((Value.bool false)) rfl (fun _ => by kernel_rfl) ?_)
        refine Xg.ops_nil ?_
        refine Xg.at_false (t := false) (by kernel_rfl) rfl ?_
        refine Xg.at_skip ?_
        refine Xg.at_seq ?_
        refine Xg.at_region ?_
        refine Xg.ops_op (by kernel_rfl) (Xg.opx_pure ((pv xx1 0)) rfl (fun _ => by kernel_rfl) ?_)
        refine Xg.ops_op (by kernel_rfl) (Xg.opx_pure ((iv (↑xx3 : Int))) rfl (fun _ => by kernel_rfl) ?_)
        refine Xg.ops_op (by kernel_rfl) (Xg.opx_pure ((iv v)) rfl (fun _ => by kernel_rfl) ?_)
        refine Xg.ops_op (by kernel_rfl) (Xg.opx_pure (.int .i64 (IntKind.wrap .i64 ((v + (1 : Int))))) rfl (fun _ => by kernel_rfl) ?_)
        refine Xg.ops_op (by kernel_rfl) (Xg.opx_callE' [0] (fun xx8 => [PpR xx1 xx8, A]) (fun _ => by kernel_rfl) (@hdm (τ2) (by omega) ((IntKind.i64.wrap (v + (1 : Int))))) (by kernel_rfl) (by kernel_rfl) (by kernel_rfl) fun xx8 xh8 => ?_)
        try dsimp only at xh8
        obtain ⟨xh8_0, xh8_1, xh8_2⟩ := xh8
        refine Xg.ops_nil ?_
        refine Xg.at_seq ?_
        refine Xg.at_region ?_
        refine Xg.ops_op (by kernel_rfl) (Xg.opx_pure ((pv xx1 0)) rfl (fun _ => by kernel_rfl) ?_)
        refine Xg.ops_op (by kernel_rfl) (Xg.opx_call1' [0] [PpR xx1 xx8, A] (fun _ => by kernel_rfl) (@Go.Proofs.Ytkfclamiendamaa.dma_x (xx1) (xx8) (((160 : Int))) (((5 : Int))) (by omega)) (by kernel_rfl) (by kernel_rfl) (by kernel_rfl) ?_)
        refine Xg.ops_nil ?_
        refine Xg.at_seq ?_
        refine Xg.at_region ?_
        refine Xg.ops_op (by kernel_rfl) (Xg.opx_pure ((pv xx1 0)) rfl (fun _ => by kernel_rfl) ?_)
        refine Xg.ops_op (by kernel_rfl) (Xg.opx_call1' [0] [PpR xx1 xx8, A] (fun _ => by kernel_rfl) (@Go.Proofs.Ytkfclamiendamaa.dma_x (xx1) (xx8) (((-1 : Int))) (((5 : Int))) (by omega)) (by kernel_rfl) (by kernel_rfl) (by kernel_rfl) ?_)
        refine Xg.ops_nil ?_
        refine Xg.at_seq ?_
        refine Xg.at_region ?_
        refine Xg.ops_op (by kernel_rfl) (Xg.opx_pure ((pv xx1 0)) rfl (fun _ => by kernel_rfl) ?_)
        refine Xg.ops_op (by kernel_rfl) (Xg.opx_pure ((iv (↑xx3 : Int))) rfl (fun _ => by kernel_rfl) ?_)
        refine Xg.ops_op (by kernel_rfl) (Xg.opx_int .i64 (IntKind.wrap .i64 (((65024 : Int) + (↑xx3 : Int)))) rfl (fun _ => by kernel_rfl) (Xg.wrap_i64_in (by omega)) ?_)
        refine Xg.ops_op (by kernel_rfl) (Xg.opx_call1' [0] [PpR xx1 xx8, A] (fun _ => by kernel_rfl) (@Go.Proofs.Ytkfclamiendamaa.memo_k (xx1) (xx8) (by omega) (xx3) (by omega)) (by kernel_rfl) (by kernel_rfl) (by kernel_rfl) ?_)
        refine Xg.ops_op (by kernel_rfl) (Xg.opx_pure ((iv v)) rfl (fun _ => by kernel_rfl) ?_)
        refine Xg.ops_op (by kernel_rfl) (Xg.opx_pure (.int .i64 (IntKind.wrap .i64 ((v + (1 : Int))))) rfl (fun _ => by kernel_rfl) ?_)
        refine Xg.ops_op (by kernel_rfl) (Xg.opx_int .u8 (IntKind.wrap .u8 ((IntKind.i64.wrap (v + (1 : Int))))) rfl (fun _ => by kernel_rfl) (Xg.wrap_u8_mod _) ?_)
        refine Xg.ops_op (by kernel_rfl) (Xg.opx_int .i64 (IntKind.wrap .i64 ((IntKind.i64.wrap (v + (1 : Int)) % (256 : Int)))) rfl (fun _ => by kernel_rfl) (Xg.wrap_i64_in (by omega)) ?_)
        refine Xg.ops_op (by kernel_rfl) (Xg.opx_pure (.bool (decide (((xx8.oam xx3) : Int) = (IntKind.i64.wrap (v + (1 : Int)) % (256 : Int))))) rfl (fun _ => by kernel_rfl) ?_)
        refine Xg.ops_op (by kernel_rfl) (Xg.opx_pure ((Value.bool (decide (xx8.oam xx3 = IntKind.i64.wrap (v + (1 : Int)) % (256 : Int))))) rfl (fun _ => by kernel_rfl) ?_)
        refine Xg.ops_flag (j := 133) (c := (decide (xx8.oam xx3 = IntKind.i64.wrap (v + (1 : Int)) % (256 : Int)))) (by kernel_rfl) (fun _ => ?_) (fun xh9 => absurd (of_decide_eq_false xh9) (by omega))
        refine Xg.ops_op (by kernel_rfl) (Xg.opx_pure ((pv xx1 0)) rfl (fun _ => by kernel_rfl) ?_)
        refine Xg.ops_op (by kernel_rfl) (Xg.opx_pure ((iv ((32768 : Int) + (↑xx2 : Int)))) rfl (fun _ => by kernel_rfl) ?_)
        refine Xg.ops_op (by kernel_rfl) (Xg.opx_call1' [0] [PpR xx1 xx8, A] (fun _ => by kernel_rfl) (@Go.Proofs.Ytkfclamiendamaa.memv_k (xx1) (xx8) (by omega) (xx2) (by omega)) (by kernel_rfl) (by kernel_rfl) (by kernel_rfl) ?_)
        refine Xg.ops_op (by kernel_rfl) (Xg.opx_pure ((iv (v % (256 : Int)))) rfl (fun _ => by kernel_rfl) ?_)
        refine Xg.ops_op (by kernel_rfl) (Xg.opx_pure (.bool (decide (((xx8.vram xx2) : Int) = (v % (256 : Int))))) rfl (fun _ => by kernel_rfl) ?_)
        refine Xg.ops_flag (j := 138) (c := (decide (xx8.vram xx2 = v % (256 : Int)))) (by kernel_rfl) (fun _ => ?_) (fun xh9 => absurd (of_decide_eq_false xh9) (by omega))
        refine Xg.ops_op (by kernel_rfl) (Xg.opx_pure ((Value.bool true)) rfl (fun _ => by kernel_rfl) ?_)
        refine Xg.ops_op (by kernel_rfl) (Xg.opx_pure ((Value.bool true)) rfl (fun _ => by kernel_rfl) ?_)
        refine Xg.ops_nil ?_
        refine Xg.at_ret_ps (v := (Value.bool true)) [1] [A] Go.Proofs.Try.func16 (fun _ => by kernel_rfl) (by kernel_rfl) (by kernel_rfl) ?_
        exact ⟨by kernel_rfl, by kernel_rfl⟩)
    · subst e
      rw [if_neg (by omega)] at hk3 rA
      rw [if_pos (by omega)] at hk4 rK
      (focus
        refine Xg.at_seq ?_
        refine Xg.at_seq ?_
        refine Xg.at_region ?_
        refine Xg.ops_op (by kernel_rfl) (Xg.opx_pure ((iv 0)) rfl (fun _ => by kernel_rfl) ?_)
        refine Xg.ops_op (by kernel_rfl) (Xg.opx_pure ((Value.bool false)) rfl (fun _ => by kernel_rfl) ?_)
        refine Xg.ops_nil ?_
        refine Xg.at_false (t := false) (by kernel_rfl) rfl ?_
        refine Xg.at_exit rfl ?_
        refine Xg.at_seq ?_
        refine Xg.at_region ?_
        refine Xg.ops_op (by kernel_rfl) (Xg.opx_pure ((pv xx1 0)) rfl (fun _ => by kernel_rfl) ?_)
        refine Xg.ops_op (by kernel_rfl) (Xg.opx_call1' [0] [PpR xx1 σ, A] (fun _ => by kernel_rfl) (@rS ) (by kernel_rfl) (by kernel_rfl) (by kernel_rfl) ?_)
        refine Xg.ops_op (by kernel_rfl) (Xg.opx_pure (.int .i64 (Xg.band .i64 (R) (((3 : Int))))) rfl (fun _ => by kernel_rfl) ?_)
        refine Xg.ops_op (by kernel_rfl) (Xg.opx_pure ((iv (band IntKind.i64 R (3 : Int)))) rfl (fun _ => by kernel_rfl) ?_)
        refine Xg.ops_nil ?_
        refine Xg.at_seq ?_
        refine Xg.at_region ?_
        refine Xg.ops_op (by kernel_rfl) (Xg.opx_pure ((pv xx1 0)) rfl (fun _ => by kernel_rfl) ?_)
        refine Xg.ops_op (by kernel_rfl) (Xg.opx_pure ((iv ((32768 : Int) + (↑xx2 : Int)))) rfl (fun _ => by kernel_rfl) ?_)
        refine Xg.ops_op (by kernel_rfl) (Xg.opx_call1' [0] [PpR xx1 σ, A] (fun _ => by kernel_rfl) (@rA ) (by kernel_rfl) (by kernel_rfl) (by kernel_rfl) ?_)
        refine Xg.ops_op (by kernel_rfl) (Xg.opx_pure ((iv 17)) rfl (fun _ => by kernel_rfl) ?_)
        refine Xg.ops_nil ?_
        refine Xg.at_seq ?_
        refine Xg.at_region ?_
        refine Xg.ops_op (by kernel_rfl) (Xg.opx_pure ((pv xx1 0)) rfl (fun _ => by kernel_rfl) ?_)
        refine Xg.ops_op (by kernel_rfl) (Xg.opx_pure ((iv (↑xx3 : Int))) rfl (fun _ => by kernel_rfl) ?_)
        refine Xg.ops_op (by kernel_rfl) (Xg.opx_int .i64 (IntKind.wrap .i64 (((65024 : Int) + (↑xx3 : Int)))) rfl (fun _ => by kernel_rfl) (Xg.wrap_i64_in (by omega)) ?_)
        refine Xg.ops_op (by kernel_rfl) (Xg.opx_call1' [0] [PpR xx1 σ, A] (fun _ => by kernel_rfl) (@rK ) (by kernel_rfl) (by kernel_rfl) (by kernel_rfl) ?_)
        refine Xg.ops_op (by kernel_rfl) (Xg.opx_pure ((iv 255)) rfl (fun _ => by kernel_rfl) ?_)
        refine Xg.ops_nil ?_
        refine Xg.at_seq ?_
        refine Xg.at_region ?_
        refine Xg.ops_op (by kernel_rfl) (Xg.opx_pure ((pv xx1 0)) rfl (fun _ => by kernel_rfl) ?_)
        refine Xg.ops_op (by kernel_rfl) (Xg.opx_pure ((iv ((32768 : Int) + (↑xx2 : Int)))) rfl (fun _ => by kernel_rfl) ?_)
        refine Xg.ops_op (by kernel_rfl) (Xg.opx_pure ((iv v)) rfl (fun _ => by kernel_rfl) ?_)
        refine Xg.ops_op (by kernel_rfl) (Xg.opx_call1' [0] [PpR xx1 τ1, A] (fun _ => by kernel_rfl) (@w1 ) (by kernel_rfl) (by kernel_rfl) (by kernel_rfl) ?_)
        refine Xg.ops_nil ?_
        refine Xg.at_seq ?_
        refine Xg.at_region ?_
        refine Xg.ops_op (by kernel_rfl) (Xg.opx_pure ((pv xx1 0)) rfl (fun _ => by kernel_rfl) ?_)
        refine Xg.ops_op (by kernel_rfl) (Xg.opx_pure ((iv (↑xx3 : Int))) rfl (fun _ => by kernel_rfl) ?_)
        refine Xg.ops_op (by kernel_rfl) (Xg.opx_int .i64 (IntKind.wrap .i64 (((65024 : Int) + (↑xx3 : Int)))) rfl (fun _ => by kernel_rfl) (Xg.wrap_i64_in (by omega)) ?_)
        refine Xg.ops_op (by kernel_rfl) (Xg.opx_pure ((iv v)) rfl (fun _ => by kernel_rfl) ?_)
        refine Xg.ops_op (by kernel_rfl) (Xg.opx_call1' [0] [PpR xx1 τ2, A] (fun _ => by kernel_rfl) (@w2 ) (by kernel_rfl) (by kernel_rfl) (by kernel_rfl) ?_)
        refine Xg.ops_nil ?_
        refine Xg.at_seq ?_
        refine Xg.at_region ?_
        refine Xg.ops_op (by kernel_rfl) (Xg.opx_pure ((iv v)) rfl (fun _ => by kernel_rfl) ?_)
        refine Xg.ops_op (by kernel_rfl) (Xg.opx_int .u8 (IntKind.wrap .u8 (v)) rfl (fun _ => by kernel_rfl) (Xg.wrap_u8_mod _) ?_)
        refine Xg.ops_op (by kernel_rfl) (Xg.opx_int .i64 (IntKind.wrap .i64 ((v % (256 : Int)))) rfl (fun _ => by kernel_rfl) (Xg.wrap_i64_in (by omega)) ?_)
        refine Xg.ops_op (by kernel_rfl) (Xg.opx_pure ((iv (v % (256 : Int)))) rfl (fun _ => by kernel_rfl) ?_)
        refine Xg.ops_nil ?_
        refine Xg.at_seq ?_
        refine Xg.at_region ?_
        refine Xg.ops_op (by kernel_rfl) (Xg.opx_pure ((iv 17)) rfl (fun _ => by kernel_rfl) ?_)
        refine Xg.ops_nil ?_
        refine Xg.at_seq ?_
        refine Xg.at_region ?_
        refine Xg.ops_op (by kernel_rfl) (Xg.opx_pure ((iv 34)) rfl (fun _ => by kernel_rfl) ?_)
        refine Xg.ops_nil ?_
        refine Xg.at_seq ?_
        refine Xg.at_seq ?_
        refine Xg.at_region ?_
        refine Xg.ops_op (by kernel_rfl) (Xg.opx_pure ((iv (band IntKind.i64 R (3 : Int)))) rfl (fun _ => by kernel_rfl) ?_)
        refine Xg.ops_op (by kernel_rfl) (Xg.opx_pure (.bool (!decide (((band IntKind.i64 R (3 : Int)) : Int) = ((3 : Int))))) rfl (fun _ => by kernel_rfl) ?_)
        refine Xg.ops_nil ?_
        refine Xg.at_true (t := !decide ((band IntKind.i64 R (3 : Int) = (3 : Int)))) (by kernel_rfl) (by rw [decide_eq_false (by omega)]; rfl) ?_
        refine Xg.at_region ?_
        refine Xg.ops_op (by kernel_rfl) (Xg.opx_pure ((iv (v % (256 : Int)))) rfl (fun _ => by kernel_rfl) ?_)
        refine Xg.ops_op (by kernel_rfl) (Xg.opx_pure ((iv (v % (256 : Int)))) rfl (fun _ => by kernel_rfl) ?_)
        refine Xg.ops_nil ?_
        refine Xg.at_seq ?_
        refine Xg.at_seq ?_
        refine Xg.at_region ?_
        refine Xg.ops_op (by kernel_rfl) (Xg.opx_pure ((iv (band IntKind.i64 R (3 : Int)))) rfl (fun _ => by kernel_rfl) ?_)
        refine Xg.ops_op (by kernel_rfl) (Xg.opx_pure (.bool (decide (((band IntKind.i64 R (3 : Int)) : Int) < ((2 : Int))))) rfl (fun _ => by kernel_rfl) ?_)
        refine Xg.ops_nil ?_
        refine Xg.at_false (t := decide ((band IntKind.i64 R (3 : Int) < (2 : Int)))) (by kernel_rfl) (decide_eq_false (by omega)) ?_
        refine Xg.at_skip ?_
        refine Xg.at_seq ?_
        refine Xg.at_seq ?_
        refine Xg.at_region ?_
        refine Xg.ops_op (by kernel_rfl) (Xg.opx_pure ((iv 17)) rfl (fun _ => by kernel_rfl) ?_)
        refine Xg.ops_op (by kernel_rfl) (Xg.opx_pure ((Value.bool true)) rfl (fun _ => by kernel_rfl) ?_)
        refine Xg.ops_op (by kernel_rfl) (Xg.opx_pure ((iv (band IntKind.i64 R (3 : Int)))) rfl (fun _ => by kernel_rfl) ?_)
        refine Xg.ops_op (by kernel_rfl) (Xg.opx_pure (.bool (!decide (((band IntKind.i64 R (3 : Int)) : Int) = ((3 : Int))))) rfl (fun _ => by kernel_rfl) ?_)
        refine Xg.ops_op (by kernel_rfl) (Xg.opx_eq (v := ((Value.bool !true == !decide (band IntKind.i64 R (3 : Int) = (3 : Int))))) (.bool (decide (band IntKind.i64 R (3 : Int) = (3 : Int)))) rfl (fun _ => by kernel_rfl) (by generalize ((decide (band IntKind.i64 R (3 : Int) = (3 : Int))) : Bool) = bb; cases bb <;> rfl) ?_)
        refine Xg.ops_op (by kernel_rfl) (Xg.opx_pure ((Value.bool (decide (band IntKind.i64 R (3 : Int) = (3 : Int))))) rfl (fun _ => by kernel_rfl) ?_)
        refine Xg.ops_flag (j := 77) (c := (decide (band IntKind.i64 R (3 : Int) = (3 : Int)))) (by kernel_rfl) (fun xh8 => absurd (of_decide_eq_true xh8) (by omega)) (fun _ => ?_)
        refine Xg.ops_op (by kernel_rfl) (Xg.opx_pure ((iv 255)) rfl (fun _ => by kernel_rfl) ?_)
        refine Xg.ops_op (by kernel_rfl) (Xg.opx_pure ((Value.bool false)) rfl (fun _ => by kernel_rfl) ?_)
        refine Xg.ops_op (by kernel_rfl) (Xg.opx_pure ((iv (band IntKind.i64 R (3 : Int)))) rfl (fun _ => by kernel_rfl) ?_)
        refine Xg.ops_op (by kernel_rfl) (Xg.opx_pure (.bool (decide (((band IntKind.i64 R (3 : Int)) : Int) < ((2 : Int))))) rfl (fun _ => by kernel_rfl) ?_)
        refine Xg.ops_op (by kernel_rfl) (Xg.opx_eq (v := ((Value.bool !false == decide (band IntKind.i64 R (3 : Int) < (2 : Int))))) (.bool (decide (band IntKind.i64 R (3 : Int) < (2 : Int)))) rfl (fun _ => by kernel_rfl) (by generalize ((decide (band IntKind.i64 R (3 : Int) < (2 : Int))) : Bool) = bb; cases bb <;> rfl) ?_)
        refine Xg.ops_flag (j := 82) (c := (decide (band IntKind.i64 R (3 : Int) < (2 : Int)))) (by kernel_rfl) (fun xh8 => absurd (of_decide_eq_true xh8) (by omega)) (fun _ => ?_)
        refine Xg.ops_op (by kernel_rfl) (Xg.opx_pure ((Value.bool false)) rfl (fun _ => by kernel_rfl) ?_)
        refine Xg.ops_op (by kernel_rfl) (Xg.opx_pure ((Value.bool false)) rfl (fun _ => by kernel_rfl) ?_)
        refine Xg.ops_op (by kernel_rfl) (Xg.opx_pure ((iv (band IntKind.i64 R (3 : Int)))) rfl (fun _ => by kernel_rfl) ?_)
        refine Xg.ops_op (by kernel_rfl) (Xg.opx_pure (.bool (decide (((band IntKind.i64 R (3 : Int)) : Int) = ((3 : Int))))) rfl (fun _ => by kernel_rfl) ?_)
        refine Xg.ops_op (by kernel_rfl) (Xg.opx_pure ((Value.bool (decide (band IntKind.i64 R (3 : Int) = (3 : Int))))) rfl (fun _ => by kernel_rfl) ?_)
        refine Xg.ops_flag (j := 87) (c := (decide (band IntKind.i64 R (3 : Int) = (3 : Int)))) (by kernel_rfl) (fun xh8 => absurd (of_decide_eq_true xh8) (by omega)) (fun _ => ?_)
        refine Xg.ops_skip (by kernel_rfl) ?_
        refine Xg.ops_skip (by kernel_rfl) ?_
        refine Xg.ops_op (by kernel_rfl) (Xg.opx_pure ((Value.bool false)) rfl (fun _ => by kernel_rfl) ?_)
        refine Xg.ops_op (by kernel_rfl) (Xg.opx_pure ((Value.bool false)) rfl (fun _ => by kernel_rfl) ?_)
        refine Xg.ops_op (by kernel_rfl) (Xg.opx_pure ((Value.bool false)) rfl (fun _ => by kernel_rfl) ?_)
        refine Xg.ops_op (by kernel_rfl) (Xg.opx_pure ((iv (band IntKind.i64 R (3 : Int)))) rfl (fun _ => by kernel_rfl) ?_)
        refine Xg.ops_op (by kernel_rfl) (Xg.opx_pure (.bool (decide (((band IntKind.i64 R (3 : Int)) : Int) > ((1 : Int))))) rfl (fun _ => by kernel_rfl) ?_)
        refine Xg.ops_op (by kernel_rfl) (Xg.opx_pure ((Value.bool (decide (band IntKind.i64 R (3 : Int) > (1 : Int))))) rfl (fun _ => by kernel_rfl) ?_)
        refine Xg.ops_flag (j := 95) (c := (decide (band IntKind.i64 R (3 : Int) > (1 : Int)))) (by kernel_rfl) (fun _ => ?_) (fun xh8 => absurd (of_decide_eq_false xh8) (by omega))
        refine Xg.ops_op (by kernel_rfl) (Xg.opx_pure ((iv 255)) rfl (fun _ => by kernel_rfl) ?_)
        refine Xg.ops_op (by kernel_rfl) (Xg.opx_pure ((Value.bool false)) rfl (fun _ => by kernel_rfl) ?_)
        refine Xg.ops_op (by kernel_rfl) (Xg.opx_pure ((Value.bool false)) rfl (fun _ => by kernel_rfl) ?_)
        refine Xg.ops_op (by kernel_rfl) (Xg.opx_pure ((Value.bool false)) rfl (fun _ => by kernel_rfl) ?_)
        refine Xg.ops_op (by kernel_rfl) (Xg.opx_pure ((Value.bool false)) rfl (fun _ => by kernel_rfl) ?_)
        refine Xg.ops_op (by kernel_rfl) (Xg.opx_pure ((pv xx1 0)) rfl (fun _ => by kernel_rfl) ?_)
        refine Xg.ops_op (by kernel_rfl) (Xg.opx_pure ((iv ((32768 : Int) + (↑xx2 : Int)))) rfl (fun _ => by kernel_rfl) ?_)
        refine Xg.ops_op (by kernel_rfl) (Xg.opx_call1' [0] [PpR xx1 τ2, A] (fun _ => by kernel_rfl) (@Go.Proofs.Ytkfclamiendamaa.memv_k (xx1) (τ2) (by omega) (xx2) (by omega)) (by kernel_rfl) (by kernel_rfl) (by kernel_rfl) ?_)
        refine Xg.ops_op (by kernel_rfl) (Xg.opx_pure ((iv (v % (256 : Int)))) rfl (fun _ => by kernel_rfl) ?_)
        refine Xg.ops_op (by kernel_rfl) (Xg.opx_pure (.bool (!decide (((τ2.vram xx2) : Int) = (v % (256 : Int))))) rfl (fun _ => by kernel_rfl) ?_)
        refine Xg.ops_flag (j := 105) (c := (!decide (τ2.vram xx2 = v % (256 : Int)))) (by kernel_rfl) (fun xh8 => absurd xh8 (by rw [decide_eq_true (p := (τ2.vram xx2 = v % (256 : Int))) (by omega)]; decide)) (fun _ => ?_)
        refine Xg.ops_op (by kernel_rfl) (Xg.opx_pure ((Value.bool false)) rfl (fun _ => by kernel_rfl) ?_)
        refine Xg.ops_op (by kernel_rfl) (Xg.opx_pure ((Value.bool false)) rfl (fun _ => by kernel_rfl) ?_)
        refine Xg.ops_op (by kernel_rfl) (Xg.opx_pure ((pv xx1 0)) rfl (fun _ => by kernel_rfl) ?_)
        refine Xg.ops_op (by kernel_rfl) (Xg.opx_pure ((iv (↑xx3 : Int))) rfl (fun _ => by kernel_rfl) ?_)
        refine Xg.ops_op (by kernel_rfl) (Xg.opx_int .i64 (IntKind.wrap .i64 (((65024 : Int) + (↑xx3 : Int)))) rfl (fun _ => by kernel_rfl) (Xg.wrap_i64_in (by omega)) ?_)
        refine Xg.ops_op (by kernel_rfl) (Xg.opx_call1' [0] [PpR xx1 τ2, A] (fun _ => by kernel_rfl) (@Go.Proofs.Ytkfclamiendamaa.memo_k (xx1) (τ2) (by omega) (xx3) (by omega)) (by kernel_rfl) (by kernel_rfl) (by kernel_rfl) ?_)
        refine Xg.ops_op (by kernel_rfl) (Xg.opx_pure ((iv 34)) rfl (fun _ => by kernel_rfl) ?_)
        refine Xg.ops_op (by kernel_rfl) (Xg.opx_pure (.bool (!decide (((τ2.oam xx3) : Int) = ((34 : Int))))) rfl (fun _ => by kernel_rfl) ?_)
        refine Xg.ops_flag (j := 113) (c := (!decide (τ2.oam xx3 = (34 : Int)))) (by kernel_rfl) (fun xh8 => absurd xh8 (by rw [decide_eq_true (p := (τ2.oam xx3 = (34 : Int))) (by omega)]; decide)) (fun _ => ?_)
        refine Xg.ops_op (by kernel_rfl) (Xg.opx_pure ((Value.bool false)) rfl (fun _ => by kernel_rfl) ?_)
        refine Xg.ops_nil ?_
        refine Xg.at_false (t := false) (by kernel_rfl) rfl ?_
        refine Xg.at_skip ?_
        refine Xg.at_seq ?_
        refine Xg.at_region ?_
        refine Xg.ops_op (by kernel_rfl) (Xg.opx_pure ((pv xx1 0)) rfl (fun _ => by kernel_rfl) ?_)
        refine Xg.ops_op (by kernel_rfl) (Xg.opx_pure ((iv (↑xx3 : Int))) rfl (fun _ => by kernel_rfl) ?_)
        refine Xg.ops_op (by kernel_rfl) (Xg.opx_pure ((iv v)) rfl (fun _ => by kernel_rfl) ?_)
        refine Xg.ops_op (by kernel_rfl) (Xg.opx_pure (.int .i64 (IntKind.wrap .i64 ((v + (1 : Int))))) rfl (fun _ => by kernel_rfl) ?_)
        refine Xg.ops_op (by kernel_rfl) (Xg.opx_callE' [0] (fun xx8 => [PpR xx1 xx8, A]) (fun _ => by kernel_rfl) (@hdm (τ2) (by omega) ((IntKind.i64.wrap (v + (1 : Int))))) (by kernel_rfl) (by kernel_rfl) (by kernel_rfl) fun xx8 xh8 => ?_)
        try dsimp only at xh8
        obtain ⟨xh8_0, xh8_1, xh8_2⟩ := xh8
        refine Xg.ops_nil ?_
        refine Xg.at_seq ?_
        refine Xg.at_region ?_
        refine Xg.ops_op (by kernel_rfl) (Xg.opx_pure ((pv xx1 0)) rfl (fun _ => by kernel_rfl) ?_)
        refine Xg.ops_op (by kernel_rfl) (Xg.opx_call1' [0] [PpR xx1 xx8, A] (fun _ => by kernel_rfl) (@Go.Proofs.Ytkfclamiendamaa.dma_x (xx1) (xx8) (((160 : Int))) (((5 : Int))) (by omega)) (by kernel_rfl) (by kernel_rfl) (by kernel_rfl) ?_)
        refine Xg.ops_nil ?_
        refine Xg.at_seq ?_
        refine Xg.at_region ?_
        refine Xg.ops_op (by kernel_rfl) (Xg.opx_pure ((pv xx1 0)) rfl (fun _ => by kernel_rfl) ?_)
        refine Xg.ops_op (by kernel_rfl) (Xg.opx_call1' [0] [PpR xx1 xx8, A] (fun _ => by kernel_rfl) (@Go.Proofs.Ytkfclamiendamaa.dma_x (xx1) (xx8) (((-1 : Int))) (((5 : Int))) (by omega)) (by kernel_rfl) (by kernel_rfl) (by kernel_rfl) ?_)
        refine Xg.ops_nil ?_
        refine Xg.at_seq ?_
        refine Xg.at_region ?_
        refine Xg.ops_op (by kernel_rfl) (Xg.opx_pure ((pv xx1 0)) rfl (fun _ => by kernel_rfl) ?_)
        refine Xg.ops_op (by kernel_rfl) (Xg.opx_pure ((iv (↑xx3 : Int))) rfl (fun _ => by kernel_rfl) ?_)
        refine Xg.ops_op (by kernel_rfl) (Xg.opx_int .i64 (IntKind.wrap .i64 (((65024 : Int) + (↑xx3 : Int)))) rfl (fun _ => by kernel_rfl) (Xg.wrap_i64_in (by omega)) ?_)
        refine Xg.ops_op (by kernel_rfl) (Xg.opx_call1' [0] [PpR xx1 xx8, A] (fun _ => by kernel_rfl) (@Go.Proofs.Ytkfclamiendamaa.memo_k (xx1) (xx8) (by omega) (xx3) (by omega)) (by kernel_rfl) (by kernel_rfl) (by kernel_rfl) ?_)
        refine Xg.ops_op (by kernel_rfl) (Xg.opx_pure ((iv v)) rfl (fun _ => by kernel_rfl) ?_)
        refine Xg.ops_op (by kernel_rfl) (Xg.opx_pure (.int .i64 (IntKind.wrap .i64 ((v + (1 : Int))))) rfl (fun _ => by kernel_rfl) ?_)
        refine Xg.ops_op (by kernel_rfl) (Xg.opx_int .u8 (IntKind.wrap .u8 ((IntKind.i64.wrap (v + (1 : Int))))) rfl (fun _ => by kernel_rfl) (Xg.wrap_u8_mod _) ?_)
        refine Xg.ops_op (by kernel_rfl) (Xg.opx_int .i64 (IntKind.wrap .i64 ((IntKind.i64.wrap (v + (1 : Int)) % (256 : Int)))) rfl (fun _ => by kernel_rfl) (Xg.wrap_i64_in (by omega)) ?_)
        refine Xg.ops_op (by kernel_rfl) (Xg.opx_pure (.bool (decide (((xx8.oam xx3) : Int) = (IntKind.i64.wrap (v + (1 : Int)) % (256 : Int))))) rfl (fun _ => by kernel_rfl) ?_)
        refine Xg.ops_op (by kernel_rfl) (Xg.opx_pure ((Value.bool (decide (xx8.oam xx3 = IntKind.i64.wrap (v + (1 : Int)) % (256 : Int))))) rfl (fun _ => by kernel_rfl) ?_)
        refine Xg.ops_flag (j := 133) (c := (decide (xx8.oam xx3 = IntKind.i64.wrap (v + (1 : Int)) % (256 : Int)))) (by kernel_rfl) (fun _ => ?_) (fun xh9 => absurd (of_decide_eq_false xh9) (by omega))
        refine Xg.ops_op (by kernel_rfl) (Xg.opx_pure ((pv xx1 0)) rfl (fun _ => by kernel_rfl) ?_)
        refine Xg.ops_op (by kernel_rfl) (Xg.opx_pure ((iv ((32768 : Int) + (↑xx2 : Int)))) rfl (fun _ => by kernel_rfl) ?_)
        refine Xg.ops_op (by kernel_rfl) (Xg.opx_call1' [0] [PpR xx1 xx8, A] (fun _ => by kernel_rfl) (@Go.Proofs.Ytkfclamiendamaa.memv_k (xx1) (xx8) (by omega) (xx2) (by omega)) (by kernel_rfl) (by kernel_rfl) (by kernel_rfl) ?_)
        refine Xg.ops_op (by kernel_rfl) (Xg.opx_pure ((iv (v % (256 : Int)))) rfl (fun _ => by kernel_rfl) ?_)
        refine Xg.ops_op (by kernel_rfl) (Xg.opx_pure (.bool (decide (((xx8.vram xx2) : Int) = (v % (256 : Int))))) rfl (fun _ => by kernel_rfl) ?_)
        refine Xg.ops_flag (j := 138) (c := (decide (xx8.vram xx2 = v % (256 : Int)))) (by kernel_rfl) (fun _ => ?_) (fun xh9 => absurd (of_decide_eq_false xh9) (by omega))
        refine Xg.ops_op (by kernel_rfl) (Xg.opx_pure ((Value.bool true)) rfl (fun _ => by kernel_rfl) ?_)
        refine Xg.ops_op (by kernel_rfl) (Xg.opx_pure ((Value.bool true)) rfl (fun _ => by kernel_rfl) ?_)
        refine Xg.ops_nil ?_
        refine Xg.at_ret_ps (v := (Value.bool true)) [1] [A] Go.Proofs.Try.func16 (fun _ => by kernel_rfl) (by kernel_rfl) (by kernel_rfl) ?_
        exact ⟨by kernel_rfl, by kernel_rfl⟩)
    · subst e
      rw [if_pos (by omega)] at hk3 rA
      rw [if_pos (by omega)] at hk4 rK
      (focus
        refine Xg.at_seq ?_
        refine Xg.at_seq ?_
        refine Xg.at_region ?_
        refine Xg.ops_op (by kernel_rfl) (Xg.opx_pure ((iv 0)) rfl (fun _ => by kernel_rfl) ?_)
        refine Xg.ops_op (by kernel_rfl) (Xg.opx_pure ((Value.bool false)) rfl (fun _ => by kernel_rfl) ?_)
        refine Xg.ops_nil ?_
        refine Xg.at_false (t := false) (by kernel_rfl) rfl ?_
        refine Xg.at_exit rfl ?_
        refine Xg.at_seq ?_
        refine Xg.at_region ?_
        refine Xg.ops_op (by kernel_rfl) (Xg.opx_pure ((pv xx1 0)) rfl (fun _ => by kernel_rfl) ?_)
        refine Xg.ops_op (by kernel_rfl) (Xg.opx_call1' [0] [PpR xx1 σ, A] (fun _ => by kernel_rfl) (@rS ) (by kernel_rfl) (by kernel_rfl) (by kernel_rfl) ?_)
        refine Xg.ops_op (by kernel_rfl) (Xg.opx_pure (.int .i64 (Xg.band .i64 (R) (((3 : Int))))) rfl (fun _ => by kernel_rfl) ?_)
        refine Xg.ops_op (by kernel_rfl) (Xg.opx_pure ((iv (band IntKind.i64 R (3 : Int)))) rfl (fun _ => by kernel_rfl) ?_)
        refine Xg.ops_nil ?_
        refine Xg.at_seq ?_
        refine Xg.at_region ?_
        refine Xg.ops_op (by kernel_rfl) (Xg.opx_pure ((pv xx1 0)) rfl (fun _ => by kernel_rfl) ?_)
        refine Xg.ops_op (by kernel_rfl) (Xg.opx_pure ((iv ((32768 : Int) + (↑xx2 : Int)))) rfl (fun _ => by kernel_rfl) ?_)
        refine Xg.ops_op (by kernel_rfl) (Xg.opx_call1' [0] [PpR xx1 σ, A] (fun _ => by kernel_rfl) (@rA ) (by kernel_rfl) (by kernel_rfl) (by kernel_rfl) ?_)
        refine Xg.ops_op (by kernel_rfl) (Xg.opx_pure ((iv 255)) rfl (fun _ => by kernel_rfl) ?_)
        refine Xg.ops_nil ?_
        refine Xg.at_seq ?_
        refine Xg.at_region ?_
        refine Xg.ops_op (by kernel_rfl) (Xg.opx_pure ((pv xx1 0)) rfl (fun _ => by kernel_rfl) ?_)
        refine Xg.ops_op (by kernel_rfl) (Xg.opx_pure ((iv (↑xx3 : Int))) rfl (fun _ => by kernel_rfl) ?_)
        refine Xg.ops_op (by kernel_rfl) (Xg.opx_int .i64 (IntKind.wrap .i64 (((65024 : Int) + (↑xx3 : Int)))) rfl (fun _ => by kernel_rfl) (Xg.wrap_i64_in (by omega)) ?_)
        refine Xg.ops_op (by kernel_rfl) (Xg.opx_call1' [0] [PpR xx1 σ, A] (fun _ => by kernel_rfl) (@rK ) (by kernel_rfl) (by kernel_rfl) (by kernel_rfl) ?_)
        refine Xg.ops_op (by kernel_rfl) (Xg.opx_pure ((iv 255)) rfl (fun _ => by kernel_rfl) ?_)
        refine Xg.ops_nil ?_
        refine Xg.at_seq ?_
        refine Xg.at_region ?_
        refine Xg.ops_op (by kernel_rfl) (Xg.opx_pure ((pv xx1 0)) rfl (fun _ => by kernel_rfl) ?_)
        refine Xg.ops_op (by kernel_rfl) (Xg.opx_pure ((iv ((32768 : Int) + (↑xx2 : Int)))) rfl (fun _ => by kernel_rfl) ?_)
        refine Xg.ops_op (by kernel_rfl) (Xg.opx_pure ((iv v)) rfl (fun _ => by kernel_rfl) ?_)
        refine Xg.ops_op (by kernel_rfl) (Xg.opx_call1' [0] [PpR xx1 τ1, A] (fun _ => by kernel_rfl) (@w1 ) (by kernel_rfl) (by kernel_rfl) (by kernel_rfl) ?_)
        refine Xg.ops_nil ?_
        refine Xg.at_seq ?_
        refine Xg.at_region ?_
        refine Xg.ops_op (by kernel_rfl) (Xg.opx_pure ((pv xx1 0)) rfl (fun _ => by kernel_rfl) ?_)
        refine Xg.ops_op (by kernel_rfl) (Xg.opx_pure ((iv (↑xx3 : Int))) rfl (fun _ => by kernel_rfl) ?_)
        refine Xg.ops_op (by kernel_rfl) (Xg.opx_int .i64 (IntKind.wrap .i64 (((65024 : Int) + (↑xx3 : Int)))) rfl (fun _ => by kernel_rfl) (Xg.wrap_i64_in (by omega)) ?_)
        refine Xg.ops_op (by kernel_rfl) (Xg.opx_pure ((iv v)) rfl (fun _ => by kernel_rfl) ?_)
        refine Xg.ops_op (by kernel_rfl) (Xg.opx_call1' [0] [PpR xx1 τ2, A] (fun _ => by kernel_rfl) (@w2 ) (by kernel_rfl) (by kernel_rfl) (by kernel_rfl) ?_)
        refine Xg.ops_nil ?_
        refine Xg.at_seq ?_
        refine Xg.at_region ?_
        refine Xg.ops_op (by kernel_rfl) (Xg.opx_pure ((iv v)) rfl (fun _ => by kernel_rfl) ?_)
        refine Xg.ops_op (by kernel_rfl) (Xg.opx_int .u8 (IntKind.wrap .u8 (v)) rfl (fun _ => by kernel_rfl) (Xg.wrap_u8_mod _) ?_)
        refine Xg.ops_op (by kernel_rfl) (Xg.opx_int .i64 (IntKind.wrap .i64 ((v % (256 : Int)))) rfl (fun _ => by kernel_rfl) (Xg.wrap_i64_in (by omega)) ?_)
        refine Xg.ops_op (by kernel_rfl) (Xg.opx_pure ((iv (v % (256 : Int)))) rfl (fun _ => by kernel_rfl) ?_)
        refine Xg.ops_nil ?_
        refine Xg.at_seq ?_
        refine Xg.at_region ?_
        refine Xg.ops_op (by kernel_rfl) (Xg.opx_pure ((iv 17)) rfl (fun _ => by kernel_rfl) ?_)
        refine Xg.ops_nil ?_
        refine Xg.at_seq ?_
        refine Xg.at_region ?_
        refine Xg.ops_op (by kernel_rfl) (Xg.opx_pure ((iv 34)) rfl (fun _ => by kernel_rfl) ?_)
        refine Xg.ops_nil ?_
        refine Xg.at_seq ?_
        refine Xg.at_seq ?_
        refine Xg.at_region ?_
        refine Xg.ops_op (by kernel_rfl) (Xg.opx_pure ((iv (band IntKind.i64 R (3 : Int)))) rfl (fun _ => by kernel_rfl) ?_)
        refine Xg.ops_op (by kernel_rfl) (Xg.opx_pure (.bool (!decide (((band IntKind.i64 R (3 : Int)) : Int) = ((3 : Int))))) rfl (fun _ => by kernel_rfl) ?_)
        refine Xg.ops_nil ?_
        refine Xg.at_false (t := !decide ((band IntKind.i64 R (3 : Int) = (3 : Int)))) (by kernel_rfl) (by rw [decide_eq_true (by omega)]; rfl) ?_
        refine Xg.at_skip ?_
        refine Xg.at_seq ?_
        refine Xg.at_seq ?_
        refine Xg.at_region ?_
        refine Xg.ops_op (by kernel_rfl) (Xg.opx_pure ((iv (band IntKind.i64 R (3 : Int)))) rfl (fun _ => by kernel_rfl) ?_)
        refine Xg.ops_op (by kernel_rfl) (Xg.opx_pure (.bool (decide (((band IntKind.i64 R (3 : Int)) : Int) < ((2 : Int))))) rfl (fun _ => by kernel_rfl) ?_)
        refine Xg.ops_nil ?_
        refine Xg.at_false (t := decide ((band IntKind.i64 R (3 : Int) < (2 : Int)))) (by kernel_rfl) (decide_eq_false (by omega)) ?_
        refine Xg.at_skip ?_
        refine Xg.at_seq ?_
        refine Xg.at_seq ?_
        refine Xg.at_region ?_
        refine Xg.ops_op (by kernel_rfl) (Xg.opx_pure ((iv 255)) rfl (fun _ => by kernel_rfl) ?_)
        refine Xg.ops_op (by kernel_rfl) (Xg.opx_pure ((Value.bool false)) rfl (fun _ => by kernel_rfl) ?_)
        refine Xg.ops_op (by kernel_rfl) (Xg.opx_pure ((iv (band IntKind.i64 R (3 : Int)))) rfl (fun _ => by kernel_rfl) ?_)
        refine Xg.ops_op (by kernel_rfl) (Xg.opx_pure (.bool (!decide (((band IntKind.i64 R (3 : Int)) : Int) = ((3 : Int))))) rfl (fun _ => by kernel_rfl) ?_)
        refine Xg.ops_op (by kernel_rfl) (Xg.opx_eq (v := ((Value.bool !false == !decide (band IntKind.i64 R (3 : Int) = (3 : Int))))) (.bool (!decide (band IntKind.i64 R (3 : Int) = (3 : Int)))) rfl (fun _ => by kernel_rfl) (by generalize ((!decide (band IntKind.i64 R (3 : Int) = (3 : Int))) : Bool) = bb; cases bb <;> rfl) ?_)
        refine Xg.ops_op (by kernel_rfl) (Xg.opx_pure ((Value.bool !decide (band IntKind.i64 R (3 : Int) = (3 : Int)))) rfl (fun _ => by kernel_rfl) ?_)
        refine Xg.ops_flag (j := 77) (c := (!decide (band IntKind.i64 R (3 : Int) = (3 : Int)))) (by kernel_rfl) (fun xh8 => absurd xh8 (by rw [decide_eq_true (p := (band IntKind.i64 R (3 : Int) = (3 : Int))) (by omega)]; decide)) (fun _ => ?_)
        refine Xg.ops_op (by kernel_rfl) (Xg.opx_pure ((iv 255)) rfl (fun _ => by kernel_rfl) ?_)
        refine Xg.ops_op (by kernel_rfl) (Xg.opx_pure ((Value.bool false)) rfl (fun _ => by kernel_rfl) ?_)
        refine Xg.ops_op (by kernel_rfl) (Xg.opx_pure ((iv (band IntKind.i64 R (3 : Int)))) rfl (fun _ => by kernel_rfl) ?_)
        refine Xg.ops_op (by kernel_rfl) (Xg.opx_pure (.bool (decide (((band IntKind.i64 R (3 : Int)) : Int) < ((2 : Int))))) rfl (fun _ => by kernel_rfl) ?_)
        refine Xg.ops_op (by kernel_rfl) (Xg.opx_eq (v := ((Value.bool !false == decide (band IntKind.i64 R (3 : Int) < (2 : Int))))) (.bool (decide (band IntKind.i64 R (3 : Int) < (2 : Int)))) rfl (fun _ => by kernel_rfl) (by generalize ((decide (band IntKind.i64 R (3 : Int) < (2 : Int))) : Bool) = bb; cases bb <;> rfl) ?_)
        refine Xg.ops_flag (j := 82) (c := (decide (band IntKind.i64 R (3 : Int) < (2 : Int)))) (by kernel_rfl) (fun xh8 => absurd (of_decide_eq_true xh8) (by omega)) (fun _ => ?_)
        refine Xg.ops_op (by kernel_rfl) (Xg.opx_pure ((Value.bool false)) rfl (fun _ => by kernel_rfl) ?_)
        refine Xg.ops_op (by kernel_rfl) (Xg.opx_pure ((Value.bool false)) rfl (fun _ => by kernel_rfl) ?_)
        refine Xg.ops_op (by kernel_rfl) (Xg.opx_pure ((iv (band IntKind.i64 R (3 : Int)))) rfl (fun _ => by kernel_rfl) ?_)
        refine Xg.ops_op (by kernel_rfl) (Xg.opx_pure (.bool (decide (((band IntKind.i64 R (3 : Int)) : Int) = ((3 : Int))))) rfl (fun _ => by kernel_rfl) ?_)
        refine Xg.ops_op (by kernel_rfl) (Xg.opx_pure ((Value.bool (decide (band IntKind.i64 R (3 : Int) = (3 : Int))))) rfl (fun _ => by kernel_rfl) ?_)
        refine Xg.ops_flag (j := 87) (c := (decide (band IntKind.i64 R (3 : Int) = (3 : Int)))) (by kernel_rfl) (fun _ => ?_) (fun xh8 => absurd (of_decide_eq_false xh8) (by omega))
        refine Xg.ops_op (by kernel_rfl) (Xg.opx_pure ((iv 255)) rfl (fun _ => by kernel_rfl) ?_)
        refine Xg.ops_op (by kernel_rfl) (Xg.opx_pure ((Value.bool false)) rfl (fun _ => by kernel_rfl) ?_)
        refine Xg.ops_op (by kernel_rfl) (Xg.opx_pure ((Value.bool false)) rfl (fun _ => by kernel_rfl) ?_)
        refine Xg.ops_op (by kernel_rfl) (Xg.opx_pure ((Value.bool false)) rfl (fun _ => by kernel_rfl) ?_)
        refine Xg.ops_op (by kernel_rfl) (Xg.opx_pure ((Value.bool false)) rfl (fun _ => by kernel_rfl) ?_)
        refine Xg.ops_op (by kernel_rfl) (Xg.opx_pure ((iv (band IntKind.i64 R (3 : Int)))) rfl (fun _ => by kernel_rfl) ?_)
        refine Xg.ops_op (by kernel_rfl) (Xg.opx_pure (.bool (decide (((band IntKind.i64 R (3 : Int)) : Int) > ((1 : Int))))) rfl (fun _ => by kernel_rfl) ?_)
        refine Xg.ops_op (by kernel_rfl) (Xg.opx_pure ((Value.bool (decide (band IntKind.i64 R (3 : Int) > (1 : Int))))) rfl (fun _ => by kernel_rfl) ?_)
        refine Xg.ops_flag (j := 95) (c := (decide (band IntKind.i64 R (3 : Int) > (1 : Int)))) (by kernel_rfl) (fun _ => ?_) (fun xh8 => absurd (of_decide_eq_false xh8) (by omega))
        refine Xg.ops_op (by kernel_rfl) (Xg.opx_pure ((iv 255)) rfl (fun _ => by kernel_rfl) ?_)
        refine Xg.ops_op (by kernel_rfl) (Xg.opx_pure ((Value.bool false)) rfl (fun _ => by kernel_rfl) ?_)
        refine Xg.ops_op (by kernel_rfl) (Xg.opx_pure ((Value.bool false)) rfl (fun _ => by kernel_rfl) ?_)
        refine Xg.ops_op (by kernel_rfl) (Xg.opx_pure ((Value.bool false)) rfl (fun _ => by kernel_rfl) ?_)
        refine Xg.ops_op (by kernel_rfl) (Xg.opx_pure ((Value.bool false)) rfl (fun _ => by kernel_rfl) ?_)
        refine Xg.ops_op (by kernel_rfl) (Xg.opx_pure ((pv xx1 0)) rfl (fun _ => by kernel_rfl) ?_)
        refine Xg.ops_op (by kernel_rfl) (Xg.opx_pure ((iv ((32768 : Int) + (↑xx2 : Int)))) rfl (fun _ => by kernel_rfl) ?_)
        refine Xg.ops_op (by kernel_rfl) (Xg.opx_call1' [0] [PpR xx1 τ2, A] (fun _ => by kernel_rfl) (@Go.Proofs.Ytkfclamiendamaa.memv_k (xx1) (τ2) (by omega) (xx2) (by omega)) (by kernel_rfl) (by kernel_rfl) (by kernel_rfl) ?_)
        refine Xg.ops_op (by kernel_rfl) (Xg.opx_pure ((iv 17)) rfl (fun _ => by kernel_rfl) ?_)
        refine Xg.ops_op (by kernel_rfl) (Xg.opx_pure (.bool (!decide (((τ2.vram xx2) : Int) = ((17 : Int))))) rfl (fun _ => by kernel_rfl) ?_)
        refine Xg.ops_flag (j := 105) (c := (!decide (τ2.vram xx2 = (17 : Int)))) (by kernel_rfl) (fun xh8 => absurd xh8 (by rw [decide_eq_true (p := (τ2.vram xx2 = (17 : Int))) (by omega)]; decide)) (fun _ => ?_)
        refine Xg.ops_op (by kernel_rfl) (Xg.opx_pure ((Value.bool false)) rfl (fun _ => by kernel_rfl) ?_)
        refine Xg.ops_op (by kernel_rfl) (Xg.opx_pure ((Value.bool false)) rfl (fun _ => by kernel_rfl) ?_)
        refine Xg.ops_op (by kernel_rfl) (Xg.opx_pure ((pv xx1 0)) rfl (fun _ => by kernel_rfl) ?_)
        refine Xg.ops_op (by kernel_rfl) (Xg.opx_pure ((iv (↑xx3 : Int))) rfl (fun _ => by kernel_rfl) ?_)
        refine Xg.ops_op (by kernel_rfl) (Xg.opx_int .i64 (IntKind.wrap .i64 (((65024 : Int) + (↑xx3 : Int)))) rfl (fun _ => by kernel_rfl) (Xg.wrap_i64_in (by omega)) ?_)
        refine Xg.ops_op (by kernel_rfl) (Xg.opx_call1' [0] [PpR xx1 τ2, A] (fun _ => by kernel_rfl) (@Go.Proofs.Ytkfclamiendamaa.memo_k (xx1) (τ2) (by omega) (xx3) (by omega)) (by kernel_rfl) (by kernel_rfl) (by kernel_rfl) ?_)
        refine Xg.ops_op (by kernel_rfl) (Xg.opx_pure ((iv 34)) rfl (fun _ => by kernel_rfl) ?_)
        refine Xg.ops_op (by kernel_rfl) (Xg.opx_pure (.bool (!decide (((τ2.oam xx3) : Int) = ((34 : Int))))) rfl (fun _ => by kernel_rfl) ?_)
        refine Xg.ops_flag (j := 113) (c := (!decide (τ2.oam xx3 = (34 : Int)))) (by kernel_rfl) (fun xh8 => absurd xh8 (by rw [decide_eq_true (p := (τ2.oam xx3 = (34 : Int))) (by omega)]; decide)) (fun _ => ?_)
        refine Xg.ops_op (by kernel_rfl) (Xg.opx_pure ((Value.bool false)) rfl (fun _ => by kernel_rfl) ?_)
        refine Xg.ops_nil ?_
        refine Xg.at_false (t := false) (by kernel_rfl) rfl ?_
        refine Xg.at_skip ?_
        refine Xg.at_seq ?_
        refine Xg.at_region ?_
        refine Xg.ops_op (by kernel_rfl) (Xg.opx_pure ((pv xx1 0)) rfl (fun _ => by kernel_rfl) ?_)
        refine Xg.ops_op (by kernel_rfl) (Xg.opx_pure ((iv (↑xx3 : Int))) rfl (fun _ => by kernel_rfl) ?_)
        refine Xg.ops_op (by kernel_rfl) (Xg.opx_pure ((iv v)) rfl (fun _ => by kernel_rfl) ?_)
        refine Xg.ops_op (by kernel_rfl) (Xg.opx_pure (.int .i64 (IntKind.wrap .i64 ((v + (1 : Int))))) rfl (fun _ => by kernel_rfl) ?_)
        refine Xg.ops_op (by kernel_rfl) (Xg.opx_callE' [0] (fun xx8 => [PpR xx1 xx8, A]) (fun _ => by kernel_rfl) (@hdm (τ2) (by omega) ((IntKind.i64.wrap (v + (1 : Int))))) (by kernel_rfl) (by kernel_rfl) (by kernel_rfl) fun xx8 xh8 => ?_)
        try dsimp only at xh8
        obtain ⟨xh8_0, xh8_1, xh8_2⟩ := xh8
        refine Xg.ops_nil ?_
        refine Xg.at_seq ?_
        refine Xg.at_region ?_
        refine Xg.ops_op (by kernel_rfl) (Xg.opx_pure ((pv xx1 0)) rfl (fun _ => by kernel_rfl) ?_)
        refine Xg.ops_op (by kernel_rfl) (Xg.opx_call1' [0] [PpR xx1 xx8, A] (fun _ => by kernel_rfl) (@Go.Proofs.Ytkfclamiendamaa.dma_x (xx1) (xx8) (((160 : Int))) (((5 : Int))) (by omega)) (by kernel_rfl) (by kernel_rfl) (by kernel_rfl) ?_)
        refine Xg.ops_nil ?_
        refine Xg.at_seq ?_
        refine Xg.at_region ?_
        refine Xg.ops_op (by kernel_rfl) (Xg.opx_pure ((pv xx1 0)) rfl (fun _ => by kernel_rfl) ?_)
        refine Xg.ops_op (by kernel_rfl) (Xg.opx_call1' [0] [PpR xx1 xx8, A] (fun _ => by kernel_rfl) (@Go.Proofs.Ytkfclamiendamaa.dma_x (xx1) (xx8) (((-1 : Int))) (((5 : Int))) (by omega)) (by kernel_rfl) (by kernel_rfl) (by kernel_rfl) ?_)
        refine Xg.ops_nil ?_
        refine Xg.at_seq ?_
        refine Xg.at_region ?_
        refine Xg.ops_op (by kernel_rfl) (Xg.opx_pure ((pv xx1 0)) rfl (fun _ => by kernel_rfl) ?_)
        refine Xg.ops_op (by kernel_rfl) (Xg.opx_pure ((iv (↑xx3 : Int))) rfl (fun _ => by kernel_rfl) ?_)
        refine Xg.ops_op (by kernel_rfl) (Xg.opx_int .i64 (IntKind.wrap .i64 (((65024 : Int) + (↑xx3 : Int)))) rfl (fun _ => by kernel_rfl) (Xg.wrap_i64_in (by omega)) ?_)
        refine Xg.ops_op (by kernel_rfl) (Xg.opx_call1' [0] [PpR xx1 xx8, A] (fun _ => by kernel_rfl) (@Go.Proofs.Ytkfclamiendamaa.memo_k (xx1) (xx8) (by omega) (xx3) (by omega)) (by kernel_rfl) (by kernel_rfl) (by kernel_rfl) ?_)
        refine Xg.ops_op (by kernel_rfl) (Xg.opx_pure ((iv v)) rfl (fun _ => by kernel_rfl) ?_)
        refine Xg.ops_op (by kernel_rfl) (Xg.opx_pure (.int .i64 (IntKind.wrap .i64 ((v + (1 : Int))))) rfl (fun _ => by kernel_rfl) ?_)
        refine Xg.ops_op (by kernel_rfl) (Xg.opx_int .u8 (IntKind.wrap .u8 ((IntKind.i64.wrap (v + (1 : Int))))) rfl (fun _ => by kernel_rfl) (Xg.wrap_u8_mod _) ?_)
        refine Xg.ops_op (by kernel_rfl) (Xg.opx_int .i64 (IntKind.wrap .i64 ((IntKind.i64.wrap (v + (1 : Int)) % (256 : Int)))) rfl (fun _ => by kernel_rfl) (Xg.wrap_i64_in (by omega)) ?_)
        refine Xg.ops_op (by kernel_rfl) (Xg.opx_pure (.bool (decide (((xx8.oam xx3) : Int) = (IntKind.i64.wrap (v + (1 : Int)) % (256 : Int))))) rfl (fun _ => by kernel_rfl) ?_)
        refine Xg.ops_op (by kernel_rfl) (Xg.opx_pure ((Value.bool (decide (xx8.oam xx3 = IntKind.i64.wrap (v + (1 : Int)) % (256 : Int))))) rfl (fun _ => by kernel_rfl) ?_)
        refine Xg.ops_flag (j := 133) (c := (decide (xx8.oam xx3 = IntKind.i64.wrap (v + (1 : Int)) % (256 : Int)))) (by kernel_rfl) (fun _ => ?_) (fun xh9 => absurd (of_decide_eq_false xh9) (by omega))
        refine Xg.ops_op (by kernel_rfl) (Xg.opx_pure ((pv xx1 0)) rfl (fun _ => by kernel_rfl) ?_)
        refine Xg.ops_op (by kernel_rfl) (Xg.opx_pure ((iv ((32768 : Int) + (↑xx2 : Int)))) rfl (fun _ => by kernel_rfl) ?_)
        refine Xg.ops_op (by kernel_rfl) (Xg.opx_call1' [0] [PpR xx1 xx8, A] (fun _ => by kernel_rfl) (@Go.Proofs.Ytkfclamiendamaa.memv_k (xx1) (xx8) (by omega) (xx2) (by omega)) (by kernel_rfl) (by kernel_rfl) (by kernel_rfl) ?_)
        refine Xg.ops_op (by kernel_rfl) (Xg.opx_pure ((iv 17)) rfl (fun _ => by kernel_rfl) ?_)
        refine Xg.ops_op (by kernel_rfl) (Xg.opx_pure (.bool (decide (((xx8.vram xx2) : Int) = ((17 : Int))))) rfl (fun _ => by kernel_rfl) ?_)
        refine Xg.ops_flag (j := 138) (c := (decide (xx8.vram xx2 = (17 : Int)))) (by kernel_rfl) (fun _ => ?_) (fun xh9 => absurd (of_decide_eq_false xh9) (by omega))
        refine Xg.ops_op (by kernel_rfl) (Xg.opx_pure ((Value.bool true)) rfl (fun _ => by kernel_rfl) ?_)
        refine Xg.ops_op (by kernel_rfl) (Xg.opx_pure ((Value.bool true)) rfl (fun _ => by kernel_rfl) ?_)
        refine Xg.ops_nil ?_
        refine Xg.at_ret_ps (v := (Value.bool true)) [1] [A] Go.Proofs.Try.func16 (fun _ => by kernel_rfl) (by kernel_rfl) (by kernel_rfl) ?_
        exact ⟨by kernel_rfl, by kernel_rfl⟩)

end Go.Proofs.Ytkfclamiendamaa
